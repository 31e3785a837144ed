/- Joined texts of the walk, made small by a program. -/
import Derived.Test.YtobihfefmlgaoaaMk3
import Derived.Scope
import Derived.Test.YtobihfefmlgaoaaProg
set_option linter.unusedSimpArgs false
set_option linter.unusedVariables false
namespace Go.Proofs.Ytobihfefmlgaoaa.Av
open Go
def EQv (P:Program) (o:af) (T:Tm) (L:List Blk) (v:AV) (L2:List Blk):Prop :=
 match o.op with
 | .call f xs=>match dZ T xs with
   | some args=>ae P f args L fun av L'=>av=v/\L'=L2
   | none=>False
 | .callv f xs=>match evX T f,dZ T xs with
   | some (.func g caps),some args=>ae P g (args++caps) L fun av L'=>av=v/\L'=L2
   | _,_=>False
 | lo=>match ab T L lo with
   | some (c,av,L')=>c/\av=v/\L'=L2
   | none=>False
def EQ (P:Program) (o:af) (T:Tm) (L:List Blk) (v:AV) (L2:List Blk):Prop :=
 match o.guard with
 | none=>EQv P o T L v L2
 | some (t,b)=>match aj T t with
   | some (.bool x)=>if x=b then EQv P o T L v L2 else v=.tup []/\L2=L
   | some (.tup [])=>v=.tup []/\L2=L
   | _=>False
theorem EQv.congr {P:Program} {o:af} {T T':Tm} {L L2:List Blk} {v:AV} (h1:∀ t∈o.op.tmps,aj T t=aj T' t) (hv:EQv P o T L v L2):EQv P o T' L v L2:=by
 unfold EQv at hv ⊢;split at hv
 ·rename_i f xs e
  rw [e] at h1;rw [<- fK (l:=xs) h1];exact hv
 ·rename_i f xs e
  rw [e] at h1;simp only [LOp.tmps,FE] at h1;rw [<- fK (l:=xs) (fun t ht=>h1 t (.inr ht)),<- ao (x:=f) (fun t ht=>h1 t (.inl ht))];exact hv
 ·rw [<- qw h1];exact hv
theorem EQ.congr {P:Program} {o:af} {T T':Tm} {L L2:List Blk} {v:AV} (h:∀ t∈o.reads,aj T t=aj T' t) (hq:EQ P o T L v L2):EQ P o T' L v L2:=by
 have h1:∀ t∈o.op.tmps,aj T t=aj T' t:=fun t ht=>h t (by simp [af.reads,ht])
 unfold EQ at hq ⊢;split at hq
 ·exact hq.congr h1
 ·rename_i t b hg
  rw [<- h t (by simp [af.reads,hg])];split at hq
  ·split at hq
   ·rename_i e;rw [if_pos e];exact hq.congr h1
   ·rename_i e;rw [if_neg e];exact hq
  ·exact hq
  ·exact hq.elim
theorem EQv.aop {P:Program} {o:af} {T:Tm} {L L2:List Blk} {v:AV} (hq:EQv P o T L v L2):AOp P o (fun T' L'=>T'=bc o.dst v T/\L'=L2) T L:=by
 unfold EQv at hq;unfold AOp;split at hq
 ·rename_i f xs e
  simp only [e];split at hq
  ·rename_i args ha
   rw [ha];exact ae.mono hq fun av L' ⟨h1,h2⟩=>⟨by rw [h1],h2⟩
  ·exact hq.elim
 ·rename_i f xs e
  simp only [e];split at hq
  ·rename_i g caps args hf ha
   rw [hf,ha];exact ae.mono hq fun av L' ⟨h1,h2⟩=>⟨by rw [h1],h2⟩
  ·exact hq.elim
 ·rename_i lo h1 h2
  split at hq
  ·rename_i c av L' he
   have hres:Res (fun T' L'=>T'=bc o.dst v T/\L'=L2) o.dst T (ab T L o.op):=by
    rw [he];obtain ⟨hc,rfl,rfl⟩:=hq;exact ⟨hc,rfl,rfl⟩
   obtain ⟨d,lop,g⟩:=o;cases lop<;>first|exact hres|(simp [ab] at he)
  ·exact hq.elim
theorem EQ.aops {P:Program} {o:af} {T:Tm} {L L2:List Blk} {v:AV} (hq:EQ P o T L v L2):fO P (fun T' L'=>T'=bc o.dst v T/\L'=L2) [o] T L:=by
 unfold EQ at hq;simp only [fO];split at hq
 ·rename_i hg
  simp only [hg];exact hq.aop
 ·rename_i t b hg
  simp only [hg];split at hq
  ·rename_i x hx
   rw [hx,nj];split at hq
   ·rename_i e;rw [if_pos e];exact hq.aop
   ·rename_i e;rw [if_neg e];exact ⟨by rw [hq.1],hq.2.symm⟩
  ·rename_i hx
   rw [hx,yo];exact ⟨by rw [hq.1],hq.2.symm⟩
  ·exact hq.elim
def done (es:List Nat) (listed:Array Bool):Nat:=es.countP fun e=>listed.getD e false
theorem rO:∀ (es:List Nat) (f:Nat->Bool) (m:Nat),(∀ (j e:Nat),es[j]?=some e->f e=decide (j<m))->m<=es.length->es.countP f=m
 | [],f,m,_,hm=>by simp at hm;simp [hm]
 | e::es,f,0,h,_=>by
   refine H7.2 fun x hx=>?_
   obtain ⟨j,hj,rfl⟩:=GM.1 hx;have:=h j _ (FN hj);simp [this]
 | e::es,f,m+1,h,hm=>by
   rw [List.countP_cons_of_pos (by have:=h 0 e rfl;simpa using this)];rw [rO es f m (fun j x hx=>by have:=h (j+1) x (by simpa using hx);rw [this];congr 1;simp) (by simpa using hm)]
theorem rG:∀ (es:List Nat) (f:Nat->Bool),(∀ (j j' e e':Nat),es[j]?=some e->es[j']?=some e'->j<j'->f e'=true->f e=true)->∀ (j e:Nat),es[j]?=some e->f e=decide (j<es.countP f)
 | [],f,_,j,e,h=>by simp at h
 | x::es,f,hp,j,e,h=>by
   have ih:=rG es f fun a b y z h1 h2 h3=>hp (a+1) (b+1) y z (by simpa using h1) (by simpa using h2) (by omega)
   by_cases hx:f x=true
   ·rw [List.countP_cons_of_pos hx];cases j with
    | zero=>simp at h;subst h;simp [hx]
    | succ j=>rw [ih j e (by simpa using h)];congr 1;simp
   ·have all:∀ y∈es,f y=false:=fun y hy=>by
     obtain ⟨k,hk,rfl⟩:=GM.1 hy;rcases hf:f es[k] with _|_
     ·rfl
     ·exact absurd (hp 0 (k+1) x es[k] rfl (by simp) (by omega) hf) hx
    rw [List.countP_cons_of_neg hx,H7.2 (fun y hy=>by simp [all y hy])];simp only [HO,decide_false];cases j with
    | zero=>simp at h;subst h;simpa using hx
    | succ j=>exact all e (GI (by simpa using h))
section
variable {P:Program} {r:Option Nat} {w0:World} {S0:SB} {N:Nat} {own:Nat->Nat} {ops:Array Oper} {L:List Blk}
theorem xz {los:List af} {n:Nat} (hlow:aY P N own ops (List.range ops.size)=some los) (hok:mZ ops los n=true) {qs ts:List af} (hsplit:los=qs++ts) (hn:qs.length=n) {es:List Nat} {Ms:Nat->List Blk} (hes:∀ e∈es,e<qs.length)
  (hch:∀ (j j' e e':Nat),es[j]?=some e->es[j']?=some e'->j<j'->((gw ops.toList []).getD e' 0).testBit e=true)
  {K:Tm->List Blk->Prop} {T:Tm} {Q:Exit->Act->World->Prop} {E0:Env} {tr:List AV} (htr:tr.length=qs.length)
  (hq:∀ (i:Nat) (o:af) (v:AV),qs[i]?=some o->tr[i]?=some v->(∃ m,es[m]?=some i/\EQ P o (TL T qs tr 0 fun j=>decide (j<i)) (Ms m) v (Ms (m+1))) \/
   (i ∉ es/\∀ m,m<=es.length->(∀ (j e:Nat),es[j]?=some e->j<m->((gw ops.toList []).getD e 0).testBit i=false)->(∀ (j e:Nat),es[j]?=some e->m<=j->((gw ops.toList []).getD i 0).testBit e=false)->AQ P o (TL T qs tr 0 fun j=>decide (j<i)) (Ms m) v))
  (hK:fO P K ts (TL T qs tr 0 fun _=>true) (Ms es.length))
  (hQ:∀ E' T' L' a' w',E0.le E'->K T' L'->St w0 S0 N E' T' L' a' w'->Q .normal a' w') :
  ∀ (fuel:Nat) (listed:Array Bool) (a:Act) (w:World) (E:Env),listed.size=ops.size->listed.toList.count false=fuel->qX ops listed->E0.le E ->
   (∀ i,qs.length<=i->listed.getD i false=false)->St w0 S0 N E (TL T qs tr 0 fun j=>listed.getD j false) (Ms (done es listed)) a w->wpAnyIn (dt r) 0 P .any ops Q fuel listed a w:=by
 simp only [mZ,FG] at hok;generalize htbl:gw ops.toList []=tbl at hok hch hq;obtain ⟨⟨⟨⟨hdist,htied⟩,hahead⟩,hfix⟩,hchain⟩:=hok;have hget:=lr hlow;have hlen:los.length=ops.size:=by simpa using hget.1
 have hlo:∀ i,i<ops.size->∃ lo,los[i]?=some lo/\fR P N own ops i=some lo:=fun i hi=>hget.2 i i (by simp [hi])
 have hD:wC qs:=by
  have:=tg hdist;rw [hsplit] at this;have sub:∀ (qs ts:List af),wC (qs++ts)->wC qs:=by
   intro qs
   induction qs with
   | nil=>intro _ _;trivial
   | cons q qs ih=>intro ts h;exact ⟨fun p hp=>h.1 p (by simp [hp]),ih ts h.2⟩
  exact sub _ _ this
 have hqlen:qs.length+ts.length=ops.size:=by rw [<- hlen,hsplit];simp
 have allListed:∀ listed:Array Bool,listed.size=ops.size->Region.ready .any ops listed=[]->∀ i,i<ops.size->listed.getD i false=true:=by
  intro listed hsz hr i
  induction i using Nat.strongRecOn with
  | _ i ih =>
    intro hi;rcases hb:listed.getD i false with _|_
    ·exfalso;have:i∈Region.ready .any ops listed:=by
      refine mem_ready.2 ⟨?_,ops[i],F2 hi,fun e he hbd=>?_⟩
      ·have hi':i<listed.size:=by omega
       simp [Ga,hi'] at hb ⊢;exact hb
      ·have:=FH.1 hahead (ops[i],i) (by
        rw [Hj];simp [hi])
       have:=FH.1 this e (by simpa using he);simp only [hbd,Hh,Hk,decide_eq_true_eq] at this;exact ih e.on this (by omega)
     rw [hr] at this;cases this
    ·rfl
 have getD_eq:∀ (listed:Array Bool) (i:Nat),listed.size=ops.size->i<ops.size->listed.getD i true=listed.getD i false:=fun listed i h1 h2=>by
  have:i<listed.size:=by omega
  simp [Ga,this]
 have finish:∀ (listed:Array Bool) (a:Act) (w:World) (E:Env) (fuel:Nat),listed.size=ops.size->listed.toList.count false=fuel->qX ops listed->E0.le E->(∀ i,qs.length<=i->listed.getD i false=false)->St w0 S0 N E (TL T qs tr 0 fun j=>listed.getD j false) (Ms (done es listed)) a w ->
   (∀ i,i<qs.length->listed.getD i false=true)->wpAnyIn (dt r) 0 P .any ops Q fuel listed a w:=by
  intro listed a w E fuel hsz hcnt hcl hE hnot hst hall;have hTL:TL T qs tr 0 (fun j=>listed.getD j false)=TL T qs tr 0 fun _=>true:=tH fun j hj=>by
   simp only [Hl];exact hall j hj
  have hL:Ms (done es listed)=Ms es.length:=by
   congr 1
   exact List.countP_eq_length.2 fun e he=>hall e (hes e he)
  rw [hTL,hL] at hst;have hdrop:los.drop qs.length=ts:=by rw [hsplit];simp
  have hfuel:fuel=ts.length:=by
   rw [<- hcnt,<- Nat.add_left_cancel_iff (n:=qs.length),hqlen,<- hsz];have e:listed.toList=List.replicate qs.length true++List.replicate (listed.size - qs.length) false:=by
    apply Hw;intro i;rcases FV i qs.length with h1|h1
    ·have:=hall i h1;have hlt:i<listed.size:=by omega
     rw [FC (by simpa using h1)];simp [Ga,hlt] at this;simp [hlt,h1,this]
    ·rw [FJ (by simpa using h1)];have:=hnot i h1;rcases FV i listed.size with h2|h2
     ·simp [Ga,h2] at this;simp only [List.length_replicate];rw [List.getElem?_replicate];rw [if_pos (by omega)];simp [h2,this]
     ·rw [GF (by simpa using h2),GF (by simp;omega)]
   rw [e];simp [List.count_append,List.count_replicate];omega
  rw [hfuel];exact wM hlow hahead hfix hchain hQ ts qs.length listed _ _ a w E (by omega) hqlen hdrop hsz (fun i hi=>by
   rcases FV i qs.length with h1|h1
   ·rw [hall i h1];simpa using h1
   ·rw [hnot i h1];simpa using h1) hcl hE hst hK
 intro fuel
 induction fuel with
 | zero =>
   intro listed a w E hsz hcnt hcl hE hnot hst;have hr:Region.ready .any ops listed=[]:=by
    refine List.eq_nil_iff_forall_not_mem.2 fun i hi=>?_
    obtain ⟨h1,o,ho,_⟩:=mem_ready.1 hi;have hi':i<ops.size:=(F1.1 ho).1;have:false∈listed.toList:=by
     have hlt:i<listed.size:=by omega
     simp [Ga,hlt] at h1;rw [<- h1];simp
    rw [List.count_eq_zero] at hcnt;exact hcnt this
   exact finish listed a w E 0 hsz hcnt hcl hE hnot hst fun i hi=>allListed listed hsz hr i (by omega)
 | succ fuel ih =>
   intro listed a w E hsz hcnt hcl hE hnot hst;by_cases hall:∀ i,i<qs.length->listed.getD i false=true
   ·exact finish listed a w E _ hsz hcnt hcl hE hnot hst hall
   refine ⟨fun hr=>absurd (fun i hi=>allListed listed hsz hr i (by omega)) hall,fun i hi=>?_⟩;obtain ⟨hun,o,ho,hedges⟩:=mem_ready.1 hi;have hi':i<ops.size:=(F1.1 ho).1;have hun':listed.getD i false=false:=by rw [<- getD_eq listed i hsz hi'];exact hun
   obtain ⟨lo,hlo1,hlo2⟩:=hlo i hi';have hready:∀ o',ops[i]?=some o'->∀ e∈o'.after,Region.binds .any e=true->listed.getD e.on false=true:=fun o' ho'=>by
    rw [ho] at ho';cases ho';exact hedges
   have hset:∀ k,(listed.setIfInBounds i true).getD k false=if k=i then true else listed.getD k false:=fun k=>by
    by_cases e:k=i
    ·subst e;have:k<listed.size:=by omega
     simp [Ga,this]
    ·rw [if_neg e];exact getD_set_ne false (Ne.symm e)
   have hcnt':(listed.setIfInBounds i true).toList.count false=fuel:=by
    have hlt:i<listed.size:=by omega
    have:=uz listed.toList i (by
     simp [Ga,hlt] at hun';simp [hlt,hun'])
    rw [Array.toList_setIfInBounds];omega
   have hcl':qX ops (listed.setIfInBounds i true):=fun k o' hk ho' e he hb=>by
    rw [hset] at hk ⊢;by_cases e1:e.on=i
    ·rw [if_pos e1]
    ·rw [if_neg e1];by_cases e2:k=i
     ·subst e2;exact hready o' ho' e he hb
     ·rw [if_neg e2] at hk;exact hcl k o' hk ho' e he hb
   rcases FV i qs.length with hiq|hiq
   ·
    have hqi:qs[i]?=some lo:=by
     rw [hsplit,FC hiq] at hlo1;exact hlo1
    have hti:i<tr.length:=by omega
    have agree:∀ t∈lo.reads,aj (TL T qs tr 0 fun j=>decide (j<i)) t=aj (TL T qs tr 0 fun j=>listed.getD j false) t:=by
     intro t ht;by_cases hw:∃ (j:Nat) (p:af),qs[j]?=some p/\p.dst=some t
     ·obtain ⟨j,p,hp,hd⟩:=hw;have hjq:j<qs.length:=(Fx.1 hp).1;rw [vm hD htr hp hd,vm hD htr hp hd];have hlj:los[j]?=some p:=by rw [hsplit,FC hjq];exact hp
      have:=FH.1 htied (lo,i) (by rw [Hj];simpa using hlo1);have:=FH.1 this t ht;have:=FH.1 this (p,j) (by rw [Hj];simpa using hlj);simp only [hd,beq_self_eq_true,Hh,Hk,Gm,List.contains_iff_mem] at this;rcases this with h1|h1
      ·have e1:=vd hahead hfix _ _ (by omega) h1;have e2:=dv hahead hfix hcl i j hi' hready h1;simp only [decide_eq_true_eq,if_pos e1,if_pos e2]
      ·have e1:=vd hahead hfix _ _ (by omega) h1;have e2:listed.getD j false=false:=by
        rcases hb:listed.getD j false with _|_
        ·rfl
        ·have:=dv hahead hfix hcl j i (by omega) (fun o' ho'=>hcl j o' hb ho') h1;rw [hun'] at this;cases this
       simp only [decide_eq_true_eq,if_neg (show ¬ j<i by omega),e2,FI,if_false]
     ·have hno:∀ (j:Nat) (p:af),qs[j]?=some p->p.dst≠some t:=fun j p hp hd=>hw ⟨j,p,hp,hd⟩
      rw [vn hno,vn hno]
    have hTnew:∀ (t:Nat) (v:AV),aj (TL T qs tr 0 fun j=>(listed.setIfInBounds i true).getD j false) t=some v->aj (bc lo.dst tr[i] (TL T qs tr 0 fun j=>listed.getD j false)) t=some v:=by
     intro t v hv;by_cases hw:∃ (j:Nat) (p:af),qs[j]?=some p/\p.dst=some t
     ·obtain ⟨j,p,hp,hd⟩:=hw;rw [vm hD htr hp hd] at hv;by_cases e:j=i
      ·subst e;rw [hqi] at hp;cases hp;rw [hd,qn];rw [if_pos (by rw [hset,if_pos rfl]),FN hti] at hv;exact hv
      ·have hne:lo.dst≠some t:=fun e'=>e (np hD hp hqi hd e')
       rw [lv hne,vm hD htr hp hd];simp only [hset,if_neg e] at hv;exact hv
     ·have hno:∀ (j:Nat) (p:af),qs[j]?=some p->p.dst≠some t:=fun j p hp hd=>hw ⟨j,p,hp,hd⟩
      rw [vn hno] at hv;rw [lv (hno i lo hqi),vn hno];exact hv
    have hnot':∀ k,qs.length<=k->(listed.setIfInBounds i true).getD k false=false:=fun k hk=>by
     rw [hset,if_neg (by omega)];exact hnot k hk
    have hpre:∀ j e,es[j]?=some e->listed.getD e false=decide (j<done es listed):=rG es _ fun j j' e e' h1 h2 h3 h4=>by
     have hlt:e'<ops.size:=by have:=hes e' (GI h2);omega
     exact dv hahead hfix hcl e' e hlt (fun o' ho'=>hcl e' o' h4 ho') (hch j j' e e' h1 h2 h3)
    have hdl:done es listed<=es.length:=List.countP_le_length;rcases hq i lo tr[i] hqi (FN hti) with ⟨m,g1,g2⟩|⟨g1,g2⟩
    ·have hm:done es listed=m:=by
      have h1:=hpre m i g1;rw [hun'] at h1;have h2:¬ m<done es listed:=by simpa using h1.symm
      rcases FV (done es listed) m with h3|h3
      ·obtain ⟨e,he⟩:∃ e,es[done es listed]?=some e:=⟨_,FN (by have:=(Fx.1 g1).1;omega)⟩;have h4:=hpre _ e he;rw [dv hahead hfix hcl i e hi' hready (hch _ _ e i he g1 h3)] at h4;simp at h4
      ·omega
     have hm':done es (listed.setIfInBounds i true)=m+1:=by
      refine rO es _ (m+1) (fun j e he=>?_) (by have:=(Fx.1 g1).1;omega);rw [hset];by_cases e1:e=i
      ·subst e1;rw [if_pos rfl];rcases Nat.lt_trichotomy j m with h3|h3|h3
       ·simp;omega
       ·simp;omega
       ·have:=vd hahead hfix e e hi' (hch m j e e g1 he h3);omega
      ·rw [if_neg e1,hpre j e he,hm];have:j≠m:=fun e2=>by subst e2;rw [g1] at he;cases he;exact e1 rfl
       congr 1;simp only [eq_iff_iff];omega
     rw [hm] at hst;refine tF hlo2 hst (EQ.aops (EQ.congr agree g2)) fun E' T' L' a' w' hle ⟨e1,e2⟩ hst'=>ih _ a' w' E' (by simpa using hsz) hcnt' hcl' (hE.trans hle) hnot' ?_
     subst e1;subst e2;rw [hm'];exact hst'.weak hTnew rfl fun _ _ e=>.inr e
    ·have hL:done es (listed.setIfInBounds i true)=done es listed:=by
      unfold done;refine List.countP_congr fun e he=>?_
      rw [hset,if_neg (fun e1:e=i=>g1 (e1 ▸ he))]
     have hAQ:=g2 (done es listed) hdl (fun j e he hj=>by
      rcases hb:(tbl.getD e 0).testBit i with _|_
      ·rfl
      ·have h1:=hpre j e he;rw [decide_eq_true hj] at h1;have hlt:e<ops.size:=by have:=hes e (GI he);omega
       have:=dv hahead hfix hcl e i hlt (fun o' ho'=>hcl e o' h1 ho') hb;rw [hun'] at this;cases this) (fun j e he hj=>by
      rcases hb:(tbl.getD i 0).testBit e with _|_
      ·rfl
      ·have h1:=hpre j e he;rw [dv hahead hfix hcl i e hi' hready hb] at h1;have:=of_decide_eq_true h1.symm;omega)
     refine Ci hlo2 hst (hAQ.congr agree) fun E' a' w' hle hst'=>ih _ a' w' E' (by simpa using hsz) hcnt' hcl' (hE.trans hle) hnot' ?_
     rw [hL];exact hst'.weak hTnew rfl fun _ _ e=>.inr e
   ·
    refine absurd (fun j hj=>?_) hall;have h1:=FH.1 hchain i (by simpa using hi');simp only [Gm,decide_eq_true_eq] at h1;rcases h1 with h2|h2
    ·omega
    ·have h3:=FH.1 h2 j (by simp;omega);exact dv hahead hfix hcl i j hi' hready h3
end
inductive Kd where
 | pure
 | read (n f:Nat)
 | eff
 deriving Inhabited,DecidableEq
abbrev gl:=Nat×af×Tm×AV
def l3 (P:Program) (L:List Blk):List gl->Prop
 | []=>True
 | (_,o,T,v)::h=>AQ P o T L v/\l3 P L h
def oQ:List gl->List gl
 | []=>[]
 | (0,_)::h=>oQ h
 | (1,_)::h=>oQ h
 | (n+2,y)::h=>(n+1,y)::oQ h
def w7 (f:Nat) (o:af) (T:Tm) (v:AV) (H:List gl):List gl :=
 match f with
 | 0=>H
 | f+1=>(f+1,o,T,v)::H
def AG (P:Program) (K:Tm->List Blk->Prop):List (af×Kd)->List (List Blk)->List gl->Tm->Prop
 | [],L::_,_,T=>K T L
 | (o,.pure)::r,L::Ls,H,T=>∃ v,AQ P o T L v/\AG P K r (L::Ls) H (bc o.dst v T)
 | (o,.read n f)::r,L::Ls,H,T=>∃ v,(∀ L'∈(L::Ls).take (n+1),AQ P o T L' v)/\AG P K r (L::Ls) (w7 f o T v H) (bc o.dst v T)
 | (o,.eff)::r,L::Ls,H,T=>∃ v L2,EQ P o T L v L2/\l3 P L2 H/\AG P K r (L2::L::Ls) (oQ H) (bc o.dst v T)
 | _,[],_,_=>False
def fH:List (af×Kd)->Nat
 | []=>0
 | (_,.eff)::r=>fH r+1
 | _::r=>fH r
def mem (Ns:List (List Blk)) (m:Nat):List Blk:=Ns.reverse.getD m []
theorem lq {X Ls:List (List Blk)} {m:Nat} (h:m<Ls.length):mem (X++Ls) m=Ls.getD (Ls.length - 1 - m) []:=by
 simp only [mem,List.reverse_append,F4];rw [FC (by simpa using h),List.getElem?_reverse h]
theorem uH {P:Program} {L:List Blk}:∀ {H:List gl},l3 P L H->∀ y∈H,AQ P y.2.1 y.2.2.1 L y.2.2.2
 | [],_,y,hy=>by cases hy
 | (f,o,T,v)::h,hr,y,hy=>by
   rcases FX.1 hy with rfl|hy
   ·exact hr.1
   ·exact uH hr.2 y hy
theorem qA:∀ {H:List gl} {y:gl},y∈H->1<y.1->(y.1 - 1,y.2)∈oQ H
 | [],y,hy,_=>by cases hy
 | (0,z)::h,y,hy,h1=>by
   rcases FX.1 hy with rfl|hy
   ·simp at h1
   ·show (y.1 - 1,y.2)∈oQ h
    exact qA hy h1
 | (1,z)::h,y,hy,h1=>by
   rcases FX.1 hy with rfl|hy
   ·simp at h1
   ·show (y.1 - 1,y.2)∈oQ h
    exact qA hy h1
 | (n+2,z)::h,y,hy,h1=>by
   rcases FX.1 hy with rfl|hy
   ·simp [oQ]
   ·exact Ht _ (qA hy h1)
def yk (P:Program) (o:af) (T:Tm) (Ns:List (List Blk)) (v:AV) (c:Nat):Kd->Prop
 | .pure=>AQ P o T (mem Ns c) v
 | .read n f=>∀ m,c - n<=m->m<=c+f->m<Ns.length->AQ P o T (mem Ns m) v
 | .eff=>EQ P o T (mem Ns c) v (mem Ns (c+1))
theorem Cz {P:Program} {K:Tm->List Blk->Prop}:∀ (qk:List (af×Kd)) (Ls:List (List Blk)) (H:List gl) (T:Tm) (k:Nat),AG P K qk Ls H T ->
  ∃ (tr:List AV) (X:List (List Blk)),tr.length=qk.length/\X.length=fH qk /\
   (∀ y∈H,∀ m,Ls.length<=m->m<Ls.length+y.1->m<(X++Ls).length->AQ P y.2.1 y.2.2.1 (mem (X++Ls) m) y.2.2.2) /\
   (∀ i o kd v,qk[i]?=some (o,kd)->tr[i]?=some v->yk P o (TL T (qk.map (·.1)) tr k fun j=>decide (j<k+i)) (X++Ls) v (Ls.length - 1+fH (qk.take i)) kd) /\
   K (TL T (qk.map (·.1)) tr k fun _=>true) (mem (X++Ls) ((X++Ls).length - 1)):=by
 intro qk
 induction qk with
 | nil =>
   intro Ls H T k h;cases Ls with
   | nil=>exact h.elim
   | cons L Ls =>
     refine ⟨[],[],rfl,rfl,fun y _ m h1 _ h3=>?_,fun i o kd v hi=>by simp at hi,?_⟩
     ·simp only [Gs] at h3;omega
     ·rw [Gs,<- Gs (L::Ls),lq (by simp)];have h':K T L:=h;simpa [TL] using h'
 | cons q qk ih =>
   intro Ls H T k h;cases Ls with
   | nil=>rcases q with ⟨o,_|_|_⟩<;>exact h.elim
   | cons L Ls =>
     obtain ⟨o,kd⟩:=q;have tl0:∀ (v:AV) (tr:List AV),TL T (((o,kd)::qk).map (·.1)) (v::tr) k (fun j=>decide (j<k+0))=T:=fun v tr=>by
      have e:TL T (((o,kd)::qk).map (·.1)) (v::tr) k (fun j=>decide (j<k+0))=TL T (((o,kd)::qk).map (·.1)) (v::tr) k (fun _=>false):=tH fun j _=>by simp
      rw [e];exact wu _ _ _ _
     have tls:∀ (v:AV) (tr:List AV) (i:Nat),TL T (((o,kd)::qk).map (·.1)) (v::tr) k (fun j=>decide (j<k+(i+1)))=TL (bc o.dst v T) (qk.map (·.1)) tr (k+1) (fun j=>decide (j<k+1+i)):=fun v tr i=>by
      simp only [FQ,TL];rw [if_pos (by simp)];exact tH fun j _=>by congr 1;simp;omega
     have tlt:∀ (v:AV) (tr:List AV),TL T (((o,kd)::qk).map (·.1)) (v::tr) k (fun _=>true)=TL (bc o.dst v T) (qk.map (·.1)) tr (k+1) (fun _=>true):=fun v tr=>by
      simp only [FQ,TL,if_true]
     cases kd with
     | pure =>
       obtain ⟨v,h1,h2⟩:=h;obtain ⟨tr,X,g1,g2,g3,g4,g5⟩:=ih _ _ _ (k+1) h2;refine ⟨v::tr,X,by simp [g1],g2,g3,fun i p kd u hi hu=>?_,by rw [tlt];exact g5⟩;cases i with
       | zero =>
         simp only [Gg,Fy,FD] at hi hu;obtain ⟨rfl,rfl⟩:=hi;subst hu;rw [tl0];simp only [GW,fH,GJ,yk];rw [lq (by simp)];simpa using h1
       | succ i =>
         rw [tls];exact g4 i p kd u (by simpa using hi) (by simpa using hu)
     | read n f =>
       obtain ⟨v,h1,h2⟩:=h;obtain ⟨tr,X,g1,g2,g3,g4,g5⟩:=ih _ _ _ (k+1) h2;have hk:∀ y∈H,y∈w7 f o T v H:=fun y hy=>by
        unfold w7;split
        ·exact hy
        ·exact Ht _ hy
       refine ⟨v::tr,X,by simp [g1],g2,fun y hy=>g3 y (hk y hy),fun i p kd u hi hu=>?_,by rw [tlt];exact g5⟩;cases i with
       | zero =>
         simp only [Gg,Fy,FD] at hi hu;obtain ⟨rfl,rfl⟩:=hi;subst hu;rw [tl0];simp only [GW,fH,GJ,yk];intro m m1 m2 m3;rcases FV m (L::Ls).length with m4|m4
         ·rw [lq m4];refine h1 _ ?_;have m5:(L::Ls).length - 1 - m<(L::Ls).length:=by omega
          rw [F4,FN m5,Gf];rw [List.mem_take_iff_getElem];refine ⟨(L::Ls).length - 1 - m,?_,rfl⟩;simp only [FT] at m1 m4 m5 ⊢;omega
         ·cases f with
          | zero=>simp only [FT] at m2 m4;omega
          | succ f=>exact g3 (f+1,o,T,v) (by simp [w7]) m m4 (by simp only [FT] at m2 m4 ⊢;omega) m3
       | succ i =>
         rw [tls];exact g4 i p kd u (by simpa using hi) (by simpa using hu)
     | eff =>
       obtain ⟨v,L2,h1,hr,h2⟩:=h;obtain ⟨tr,X,g1,g2,g3,g4,g5⟩:=ih _ _ _ (k+1) h2;have e:(X++[L2])++(L::Ls)=X++(L2::L::Ls):=by simp
       refine ⟨v::tr,X++[L2],by simp [g1],by simp [fH,g2],fun y hy m m1 m2 m3=>?_,fun i p kd u hi hu=>?_,by rw [tlt,e];exact g5⟩
       ·rw [e] at m3 ⊢;rcases Nat.eq_or_lt_of_le m1 with m4|m4
        ·subst m4;rw [lq (by simp)];have:=uH hr y hy;simpa using this
        ·exact g3 _ (qA hy (by omega)) m (by simp only [FT] at m4 ⊢;omega) (by simp only [FT] at m2 ⊢;omega) m3
       rw [e];cases i with
       | zero =>
         simp only [Gg,Fy,FD] at hi hu;obtain ⟨rfl,rfl⟩:=hi;subst hu;rw [tl0];simp only [GW,fH,GJ,yk];rw [lq (by simp only [FT];omega),lq (by simp only [FT];omega)];simpa using h1
       | succ i =>
         rw [tls];have:=g4 i p kd u (by simpa using hi) (by simpa using hu);have e2:(L2::L::Ls).length - 1+fH (qk.take i)=(L::Ls).length - 1+fH (((o,Kd.eff)::qk).take (i+1)):=by
          simp only [FT,Hm,fH];omega
         rw [e2] at this;exact this
def LOp.pureB:LOp->Bool
 | .mv _ | .pick .. | .build .. | .bin .. | .un .. | .faddr .. | .extract .. | .mkfn .. | .conv .. | .sconv .. | .eqk .. | .eq2 ..=>true
 | _=>false
theorem CV {P:Program} {o:af} {T:Tm} {L L':List Blk} {v:AV} (hp:o.op.pureB=true) (h:AQ P o T L v):AQ P o T L' v:=by
 have key:∀ {c:Prop} {av:AV} {L2:List Blk},ab T L o.op=some (c,av,L2)->ab T L' o.op=some (c,av,L'):=fun {c av L2} he=>by
  have e:ab T L' o.op=(ab T L o.op).map fun x=>(x.1,x.2.1,L'):=by
   obtain ⟨d,op,g⟩:=o;cases op<;>simp only [LOp.pureB,FI] at hp<;>simp only [ab]<;>(repeat' split)<;>simp [Option.map_map,Function.comp_def]
  rw [e,he];rfl
 have hv:AQv P o T L v->AQv P o T L' v:=fun hv=>by
  unfold AQv at hv ⊢;obtain ⟨d,op,g⟩:=o;cases op<;>simp only [LOp.pureB,FI] at hp<;>simp only at hv ⊢<;>(
   split at hv
   ·rename_i c av L2 he
    rw [key he];exact ⟨hv.1,hv.2.1,rfl⟩
   ·exact hv.elim)
 unfold AQ at h ⊢;split at h
 ·exact hv h
 ·split at h
  ·split at h
   ·rename_i e;rw [if_pos e];exact hv h
   ·rename_i e;rw [if_neg e];exact h
  ·exact h
  ·exact h.elim
def bC:List (af×Kd)->Nat->List Nat
 | [],_=>[]
 | (_,.eff)::r,k=>k::bC r (k+1)
 | _::r,k=>bC r (k+1)
theorem fS:∀ (qk:List (af×Kd)) (k:Nat),(bC qk k).length=fH qk
 | [],_=>rfl
 | (_,.pure)::r,k=>fS r (k+1)
 | (_,.read _ _)::r,k=>fS r (k+1)
 | (_,.eff)::r,k=>by simp [bC,fH,fS r (k+1)]
theorem tf:∀ (qk:List (af×Kd)) (k i:Nat) (o:af),qk[i]?=some (o,.eff)->(bC qk k)[fH (qk.take i)]?=some (k+i)
 | [],_,i,o,h=>by simp at h
 | (p,kd)::r,k,0,o,h=>by
   simp only [Gg,Fy,FD] at h;obtain ⟨rfl,rfl⟩:=h;simp [bC,fH]
 | (p,kd)::r,k,i+1,o,h=>by
   have ih:=tf r (k+1) i o (by simpa using h);rw [show k+1+i=k+(i+1) by omega] at ih;cases kd<;>simpa [bC,fH] using ih
theorem te:∀ (qk:List (af×Kd)) (k e:Nat),e∈bC qk k->∃ i o,e=k+i/\qk[i]?=some (o,.eff)
 | [],_,e,h=>by simp [bC] at h
 | (p,kd)::r,k,e,h=>by
   have go:e∈bC r (k+1)->∃ i o,e=k+i/\((p,kd)::r)[i]?=some (o,.eff):=fun h'=>by
    obtain ⟨i,o,rfl,h2⟩:=te r (k+1) e h';exact ⟨i+1,o,by omega,by simpa using h2⟩
   cases kd with
   | pure=>exact go h
   | read _ _=>exact go h
   | eff =>
     rcases FX.1 h with rfl|h
     ·exact ⟨0,p,rfl,rfl⟩
     ·exact go h
def qQ (tbl:List Nat) (qk:List (af×Kd)):Bool :=
 let es:=bC qk 0
 ((List.range es.length).all fun j'=>(List.range j').all fun j=>(tbl.getD (es.getD j' 0) 0).testBit (es.getD j 0)) &&
 qk.zipIdx.all fun ((o,kd),i)=>match kd with
  | .pure=>o.op.pureB
  | .eff=>true
  | .read n f=>let c:=fH (qk.take i)
    (List.range es.length).all fun j=>(!decide (j<c - n) || (tbl.getD i 0).testBit (es.getD j 0)) && (!decide (c+f<=j) || (tbl.getD (es.getD j 0) 0).testBit i)
section
variable {P:Program} {r:Option Nat} {w0:World} {S0:SB} {N:Nat} {own:Nat->Nat} {ops:Array Oper} {L:List Blk}
theorem wt {los:List af} {n:Nat} (hlow:aY P N own ops (List.range ops.size)=some los) (hok:mZ ops los n=true) {qk:List (af×Kd)} {ts:List af} (hsplit:los=qk.map (·.1)++ts) (hn:qk.length=n)
  (hk:qQ (gw ops.toList []) qk=true) {K:Tm->List Blk->Prop} {T:Tm} {Q:Exit->Act->World->Prop} {E0:Env} (h:AG P (fO P K ts) qk [L] [] T)
  (hQ:∀ E' T' L' a' w',E0.le E'->K T' L'->St w0 S0 N E' T' L' a' w'->Q .normal a' w') (a:Act) (w:World) (E:Env) (hE:E0.le E) (hst:St w0 S0 N E T L a w) :
  wpAnyIn (dt r) 0 P .any ops Q ops.size (Array.replicate ops.size false) a w:=by
 obtain ⟨tr,X,g1,g2,-,g4,g5⟩:=Cz qk [L] [] T 0 h;have rep0:∀ i,(Array.replicate ops.size false).getD i false=false:=fun i=>by
  rw [Ga,Array.getElem?_replicate];split<;>rfl
 simp only [qQ,FG] at hk;obtain ⟨hk1,hk2⟩:=hk;have hesl:=fS qk 0;have hlt:∀ e∈bC qk 0,∃ o,qk[e]?=some (o,.eff):=fun e he=>by
  obtain ⟨i,o,rfl,h2⟩:=te qk 0 e he;exact ⟨o,by simpa using h2⟩
 have hlen:(X++[L]).length=fH qk+1:=by simp [g2]
 refine xz (T:=T) (K:=K) (qs:=qk.map (·.1)) (ts:=ts) (tr:=tr) (es:=bC qk 0) (Ms:=mem (X++[L])) hlow hok hsplit (by simpa using hn) (fun e he=>?_) (fun j j' e e' h1 h2 h3=>?_) (by simpa using g1) (fun i o v ho hv=>?_) ?_ hQ ops.size _ a w E (by simp) (by simp [List.count_replicate]) (fun i o hi=>by rw [rep0] at hi;cases hi) hE (fun i _=>rep0 i) ?_
 ·obtain ⟨o,ho⟩:=hlt e he;simpa using (Fx.1 ho).1
 ·have l2:j'<(bC qk 0).length:=(Fx.1 h2).1;have:=FH.1 (FH.1 hk1 j' (by simpa using l2)) j (by simpa using h3);have q1:(bC qk 0).getD j 0=e:=by rw [F4,h1];rfl
  have q2:(bC qk 0).getD j' 0=e':=by rw [F4,h2];rfl
  rw [q1,q2] at this;exact this
 ·rw [GA,FY] at ho;obtain ⟨⟨o',kd⟩,ho,rfl⟩:=ho;have hs:=g4 i o' kd v ho hv;simp only [List.length_singleton,Nat.sub_self,Hl] at hs;have hkk:=FH.1 hk2 ((o',kd),i) (by rw [Hj];simpa using ho);have notin:kd ≠ .eff->i ∉ bC qk 0:=fun hne he=>by
   obtain ⟨o2,h2⟩:=hlt i he;rw [ho] at h2;cases h2;exact hne rfl
  cases kd with
  | eff =>
    refine .inl ⟨fH (qk.take i),?_,hs⟩;simpa using tf qk 0 i o' ho
  | pure=>exact .inr ⟨notin (by simp),fun m _ _ _=>CV (by simpa using hkk) hs⟩
  | read n f =>
    refine .inr ⟨notin (by simp),fun m hm p1 p2=>?_⟩;simp only at hkk;have chk:=fun j (hj:j<(bC qk 0).length)=>FH.1 hkk j (by simpa using hj)
    have cle:fH (qk.take i)<=(bC qk 0).length:=by
     have:∀ (l:List (af×Kd)) (i:Nat),fH (l.take i)<=fH l:=by
      intro l
      induction l with
      | nil=>intro i;simp
      | cons q l ih =>
        intro i;cases i with
        | zero=>simp [fH]
        | succ i=>obtain ⟨o,_|_|_⟩:=q<;>simp only [Hm,fH]<;>have:=ih i<;>omega
     rw [hesl];exact this qk i
    refine hs m ?_ ?_ (by rw [hlen];omega)
    ·rcases FV m (fH (qk.take i) - n) with hlt2|hge
     ·have hme:m<(bC qk 0).length:=by omega
      have:=chk m hme;simp only [FG,Gm,F6,decide_eq_false_iff_not] at this;have e1:=p2 m _ (FN hme) (Fz _);rcases this.1 with c|c
      ·exact absurd hlt2 c
      ·rw [F4 (l:=bC qk 0),FN hme] at c;simp only [Gf] at c;rw [e1] at c;cases c
     ·exact hge
    ·rcases FV (fH (qk.take i)+f) m with hlt2|hge
     ·have hme:fH (qk.take i)+f<(bC qk 0).length:=by omega
      have:=chk _ hme;simp only [FG,Gm,F6,decide_eq_false_iff_not] at this;have e1:=p1 _ _ (FN hme) hlt2;rcases this.2 with c|c
      ·exact absurd (Fz _) c
      ·rw [F4 (l:=bC qk 0),FN hme] at c;simp only [Gf] at c;rw [e1] at c;cases c
     ·exact hge
 ·rw [hlen] at g5;rw [hesl];simpa using g5
 ·have e:TL T (qk.map (·.1)) tr 0 (fun j=>(Array.replicate ops.size false).getD j false)=T:=by
   refine Eq.trans (tH (g:=fun _=>false) fun j _=>rep0 _) (wu _ tr T 0)
  have e2:done (bC qk 0) (Array.replicate ops.size false)=0:=H7.2 fun x _=>by rw [rep0];simp
  rw [e,e2,lq (by simp)];simpa using hst
end
inductive SOp where
 | op (o:af)
 | grp (g:Option (Nat×Bool)) (t:Nat) (b:Bool) (body:List SOp) (d:Nat) (x:Opd)
 deriving Inhabited
def bW (g:Option (Nat×Bool)) (t:Nat) (b:Bool) (d:Nat) (x:Opd):af :=
 ⟨some d,.pick (.tmp t) (if b then x else .av (.bool true)) (if b then .av (.bool false) else x),g⟩
mutual
def SOp.flat:SOp->List af
 | .op o=>[o]
 | .grp g t b body d x=>SOp.flatL body++[bW g t b d x]
def SOp.flatL:List SOp->List af
 | []=>[]
 | s::r=>SOp.flat s++SOp.flatL r
end
def aO (l:List af):List Nat:=l.filterMap (·.dst)
def gds:List SOp->List Nat
 | []=>[]
 | .op _::r=>gds r
 | .grp _ _ _ body _ _::r=>aO (SOp.flatL body)++gds r
def bf:SOp->List Nat
 | .op o=>o.dst.toList
 | .grp _ _ _ _ d _=>[d]
mutual
def okO (g:Nat×Bool) (seen:List Nat):SOp->Bool
 | .op o=>decide (o.guard=some g)
 | .grp g' t b body d x=>decide (g'=some g) && seen.contains t && !(aO (SOp.flatL body)).contains t && !(aO (SOp.flatL body)).contains g.1 && okB (t,b) [] body
def okB (g:Nat×Bool) (seen:List Nat):List SOp->Bool
 | []=>true
 | s::r=>okO g seen s && (bf s).all (fun d => !(gds r).contains d && d != g.1) && okB g (bf s++seen) r
end
def okS:List SOp->Bool
 | []=>true
 | .op o::r=>o.dst.toList.all (fun d => !(gds r).contains d) && okS r
 | .grp g t b body d x::r=>decide (g=none) && !(aO (SOp.flatL body)).contains t && okB (t,b) [] body && !(gds r).contains d && okS r
def mrg (b p q:Bool):Bool:=if b then p && q else p || q
def Cv (P:Program) (f:FuncId) (args:List AV) (L:List Blk) (k:AV->Prop):Prop:=∃ v,ae P f args L (fun av L'=>av=v/\L'=L)/\k v
theorem bB {P:Program} {f:FuncId} {args:List AV} {L:List Blk} {k:AV->Prop} {v:AV} (h:ae P f args L (fun av L'=>av=v/\L'=L)) (hk:k v):Cv P f args L k:=⟨v,h,hk⟩
def IsB:Option AV->Bool->Prop:=fun o q=>o=some (.bool q)
theorem lF {q:Bool}:IsB (some (.bool q)) q:=rfl
def IsX (x:Opd) (q:Bool) (T:Tm):Prop:=IsB (evX T x) q
def Cs (k:Tm->Prop) (d:Option Nat) (T:Tm) (v:AV):Prop:=k (bc d v T)
def Ff (P:Program) (f:FuncId) (L:List Blk) (k:AV->Prop):Option (List AV)->Prop
 | some args=>Cv P f args L k
 | none=>False
def yq (P:Program) (L:List Blk) (k:AV->Prop):Option AV->Option (List AV)->Prop
 | some (.func g caps),some args=>Cv P g (args++caps) L k
 | _,_=>False
def Fb (L:List Blk) (k:AV->Prop):Option (Prop×AV×List Blk)->Prop
 | some (c,av,L')=>c/\L'=L/\k av
 | none=>False
def GOp (P:Program) (L:List Blk) (o:af) (k:Tm->Prop) (T:Tm):Prop :=
 match o.op with
 | .call f xs=>Ff P f L (Cs k o.dst T) (dZ T xs)
 | .callv f xs=>yq P L (Cs k o.dst T) (evX T f) (dZ T xs)
 | lo=>Fb L (Cs k o.dst T) (ab T L lo)
mutual
def GL (P:Program) (L:List Blk):List SOp->(Tm->Prop)->Tm->Prop
 | [],k,T=>k T
 | s::r,k,T=>GO P L s (GL P L r k) T
def GO (P:Program) (L:List Blk):SOp->(Tm->Prop)->Tm->Prop
 | .op o,k,T=>GOp P L o k T
 | .grp _ t b body d x,k,T=>match aj T t with
   | some (.bool p)=>∃ q,(p=b->GL P L body (IsX x q) T)/\k ((d,.bool (mrg b p q))::T)
   | _=>False
end
def GQ (P:Program) (L:List Blk) (b:Bool) (body:List SOp) (d:Nat) (x:Opd) (k:Tm->Prop) (T:Tm) (p:Bool):Prop :=
 ∃ q,(p=b->GL P L body (IsX x q) T)/\k ((d,.bool (mrg b p q))::T)
def GG (P:Program) (L:List Blk) (b:Bool) (body:List SOp) (d:Nat) (x:Opd) (k:Tm->Prop) (T:Tm):Option AV->Prop
 | some (.bool p)=>GQ P L b body d x k T p
 | _=>False
theorem Es {P:Program} {L:List Blk} {k:Tm->Prop} {T:Tm}:GL P L [] k T=k T:=by rw [GL]
theorem Fe {P:Program} {L:List Blk} {o:af} {r:List SOp} {k:Tm->Prop} {T:Tm}:GL P L (.op o::r) k T=GOp P L o (GL P L r k) T:=by rw [GL,GO]
theorem Et {P:Program} {L:List Blk} {g:Option (Nat×Bool)} {t d:Nat} {b:Bool} {body r:List SOp} {x:Opd} {k:Tm->Prop} {T:Tm}:GL P L (.grp g t b body d x::r) k T=GG P L b body d x (GL P L r k) T (aj T t):=by
 rw [GL,GO];rfl
theorem Dr {P:Program} {L:List Blk} {d:Nat} {b p:Bool} {body:List SOp} {x:Opd} {k:Tm->Prop} {T:Tm}:GG P L b body d x k T (some (.bool p))=GQ P L b body d x k T p:=rfl
theorem Fd {P:Program} {L:List Blk} {d:Nat} {body:List SOp} {x:Opd} {k:Tm->Prop} {T:Tm}:GQ P L true body d x k T false=k ((d,.bool false)::T):=by simp [GQ,mrg]
theorem Fc {P:Program} {L:List Blk} {d:Nat} {body:List SOp} {x:Opd} {k:Tm->Prop} {T:Tm}:GQ P L false body d x k T true=k ((d,.bool true)::T):=by simp [GQ,mrg]
def SL (P:Program):List SOp->(Tm->List Blk->Prop)->Tm->List Blk->Prop
 | [],K,T,L=>K T L
 | .op o::r,K,T,L=>match o.guard with
   | none=>AOp P o (SL P r K) T L
   | some (t,b)=>Grd P o (SL P r K) b T L (aj T t)
 | .grp _ t b body d x::r,K,T,L=>GG P L b body d x (fun T'=>SL P r K T' L) T (aj T t)
def SK (P:Program) (r:List SOp) (K:Tm->List Blk->Prop) (L:List Blk) (T:Tm):Prop:=SL P r K T L
theorem E7 {P:Program} {r:List SOp} {K:Tm->List Blk->Prop} {L:List Blk} {T:Tm}:SK P r K L T=SL P r K T L:=rfl
theorem En {P:Program} {K:Tm->List Blk->Prop} {L:List Blk} {T:Tm}:SL P [] K T L=K T L:=rfl
theorem E6 {P:Program} {d:Option Nat} {op:LOp} {r:List SOp} {K:Tm->List Blk->Prop} {L:List Blk} {T:Tm}:SL P (.op ⟨d,op,none⟩::r) K T L=AOp P ⟨d,op,none⟩ (SL P r K) T L:=rfl
theorem Em {P:Program} {d:Option Nat} {op:LOp} {t:Nat} {b:Bool} {r:List SOp} {K:Tm->List Blk->Prop} {L:List Blk} {T:Tm}:SL P (.op ⟨d,op,some (t,b)⟩::r) K T L=Grd P ⟨d,op,some (t,b)⟩ (SL P r K) b T L (aj T t):=rfl
theorem Eo {P:Program} {g:Option (Nat×Bool)} {t d:Nat} {b:Bool} {body r:List SOp} {x:Opd} {K:Tm->List Blk->Prop} {L:List Blk} {T:Tm}:SL P (.grp g t b body d x::r) K T L=GG P L b body d x (SK P r K L) T (aj T t):=rfl
def sel:List Bool->Tm->Tm
 | [],T=>T
 | true::m,x::T=>x::sel m T
 | false::m,_::T=>sel m T
 | _::_,[]=>[]
theorem xR {T:Tm}:sel [] T=T:=by cases T<;>rfl
theorem Dx {m:List Bool} {x:Nat×AV} {T:Tm}:sel (true::m) (x::T)=x::sel m T:=rfl
theorem Dy {m:List Bool} {x:Nat×AV} {T:Tm}:sel (false::m) (x::T)=sel m T:=rfl
section
variable {P:Program} {ro:Option Nat} {w0:World} {S0:SB} {N:Nat}
def Fr (ds:List Nat) (T:Tm):Prop:=∀ d∈ds,aj T d=none
theorem gh {d:Option Nat} {v:AV} {T:Tm} {t:Nat} (h:d≠some t):aj (bc d v T) t=aj T t:=by
 cases d with
 | none=>rfl
 | some d=>simp only [bc,aj];rw [if_neg (fun e=>h (by rw [e]))]
theorem dK {own:Nat->Nat} {ops:Array Oper}:∀ {l m:List af} {is:List Nat},aY P N own ops is=some (l++m)->∃ js ks,is=js++ks/\aY P N own ops js=some l/\aY P N own ops ks=some m
 | [],m,is,h=>⟨[],is,rfl,rfl,h⟩
 | o::l,m,is,h=>by
   cases is with
   | nil=>simp [aY] at h
   | cons i is =>
     simp only [aY] at h;split at h<;>try cases h
     rename_i o' m' h1 h2
     obtain ⟨js,ks,rfl,h3,h4⟩:=dK (l:=l) (m:=m) h2;refine ⟨i::js,ks,rfl,?_,h4⟩;simp only [aY,h1,h3]
theorem fI {own:Nat->Nat} {ops:Array Oper} {o:af} {is:List Nat} (h:aY P N own ops is=some [o]):∃ i,is=[i]/\fR P N own ops i=some o:=by
 cases is with
 | nil=>simp [aY] at h
 | cons i is =>
   simp only [aY] at h;split at h<;>try cases h
   rename_i o' m' h1 h2
   cases is with
   | nil=>exact ⟨i,rfl,h1⟩
   | cons j is =>
     simp only [aY] at h2;split at h2<;>cases h2
theorem sa {own:Nat->Nat} {ops:Array Oper} {K:Tm->List Blk->Prop} {Q:Exit->Act->World->Prop} {i:Nat} {lo:af} {rest:List Nat} (hl:fR P N own ops i=some lo)
  {T:Tm} {L:List Blk} {E:Env} {a:Act} {w:World} (hst:St w0 S0 N E T L a w) (hg:lo.guard=none\/∃ t b,lo.guard=some (t,b)/\aj T t=some (.bool b))
  (h:AOp P lo K T L) (hK:∀ E' T' L' a' w',E.le E'->K T' L'->St w0 S0 N E' T' L' a' w'->wpOpsIn (dt ro) 0 P ops Q rest a' w'):wpOpsIn (dt ro) 0 P ops Q (i::rest) a w:=by
 obtain ⟨o,ho,hop,hdst,hd,hg'⟩:=dL hl;obtain ⟨ld,lop,lg⟩:=lo;simp only at hop hdst hg' hg;subst hdst;simp only [wpOpsIn,ho];have hw:Region.wanted o (yielded ops a.tmps)=true:=by
  rcases hg' with ⟨g1,g2⟩|⟨j,b,t,g1,g2,g3,g4⟩
  ·simp [Region.wanted,g1]
  ·subst g4;rcases hg with hg|⟨t',b',e,hx⟩
   ·cases hg
   ·cases e;have hy:=eB (E:=E) (T:=T) (a:=a) (ops:=ops) hst.2.1 g2 (by rw [hst.2.2.1];exact g3);simp [Region.wanted,g1,hy.1 b hx]
 rw [if_pos hw];exact ny hop hd hst h hK
theorem sM {own:Nat->Nat} {ops:Array Oper} {Q:Exit->Act->World->Prop} {i:Nat} {lo:af} {rest:List Nat} (hl:fR P N own ops i=some lo)
  {T:Tm} {L:List Blk} {E:Env} {a:Act} {w:World} (hst:St w0 S0 N E T L a w) {t:Nat} {b:Bool} (hg:lo.guard=some (t,b)) (hx:aj T t=some (.bool (!b))\/aj T t=some (.tup []))
  (hK:∀ a',St w0 S0 N E (bc lo.dst (.tup []) T) L a' w->wpOpsIn (dt ro) 0 P ops Q rest a' w):wpOpsIn (dt ro) 0 P ops Q (i::rest) a w:=by
 obtain ⟨o,ho,hop,hdst,hd,hg'⟩:=dL hl;obtain ⟨ld,lop,lg⟩:=lo;simp only at hop hdst hg' hg hK;subst hdst;simp only [wpOpsIn,ho];have hw:Region.wanted o (yielded ops a.tmps)=false:=by
  rcases hg' with ⟨g1,g2⟩|⟨j,b',t',g1,g2,g3,g4⟩
  ·rw [g2] at hg;cases hg
  ·rw [g4] at hg;cases hg;have hy:=eB (E:=E) (T:=T) (a:=a) (ops:=ops) hst.2.1 g2 (by rw [hst.2.2.1];exact g3);rcases hx with hx|hx
   ·simp [Region.wanted,g1,hy.1 _ hx]
   ·simp [Region.wanted,g1,hy.2 hx]
 rw [if_neg (by simp [hw])];exact ⟨fun _ _=>trivial,hK _ (pd hst hd)⟩
def Ext (ds:List Nat) (T T':Tm):Prop:=∀ t v,t ∉ ds->aj T t=some v->aj T' t=some v
mutual
theorem DY {own:Nat->Nat} {ops:Array Oper} {Q:Exit->Act->World->Prop} {L:List Blk} {E:Env} {w:World} (s:SOp) {g:Nat×Bool} {seen:List Nat} {is rest:List Nat} {T:Tm} {a:Act} (hok:okO g seen s=true) (hl:aY P N own ops is=some s.flat)
  (hst:St w0 S0 N E T L a w) (hx:aj T g.1=some (.bool (!g.2))\/aj T g.1=some (.tup [])) (hseen:∀ d∈seen,aj T d=some (.tup []))
  (hK:∀ T' a',Ext (aO s.flat) T T'->(∀ d,aj T d=some (.tup [])->aj T' d=some (.tup []))->(∀ d∈bf s,aj T' d=some (.tup []))->St w0 S0 N E T' L a' w->wpOpsIn (dt ro) 0 P ops Q rest a' w):wpOpsIn (dt ro) 0 P ops Q (is++rest) a w:=by
 have tup:∀ (d':Option Nat) (T:Tm) (d:Nat),aj T d=some (.tup [])->aj (bc d' (.tup []) T) d=some (.tup []):=fun d' T d h=>by
  cases d' with
  | none=>exact h
  | some d' =>
    simp only [bc,aj];split
    ·rfl
    ·exact h
 cases s with
 | op o =>
   simp only [SOp.flat] at hl hK;obtain ⟨i,rfl,h1⟩:=fI hl;simp only [okO,decide_eq_true_eq] at hok;refine sM h1 hst (t:=g.1) (b:=g.2) hok hx fun a' ha'=>hK _ a' (fun t v ht hv=>?_) (tup _ _) (fun d hd=>?_) ha'
   ·rw [gh (fun e=>ht (by simp [aO,e]))];exact hv
   ·simp only [bf,HP] at hd;rw [hd];simp [bc,aj]
 | grp g' t b body d x =>
   simp only [okO,FG,decide_eq_true_eq,List.contains_iff_mem,F6,Gh,decide_eq_false_iff_not] at hok;obtain ⟨⟨⟨⟨hg',ht⟩,htb⟩,hgb⟩,hb⟩:=hok;simp only [SOp.flat] at hl hK;obtain ⟨js,ks,rfl,h1,h2⟩:=dK hl;obtain ⟨i,rfl,h3⟩:=fI h2;rw [FO];refine rY body hb h1 hst (.inr (hseen t (by simpa using ht))) (by simp) fun T' a' hext htup hst'=>?_
   refine sM h3 hst' (t:=g.1) (b:=g.2) (by simp [bW,hg']) ?_ fun a'' hst''=>hK _ a'' (fun t v ht hv=>?_) (fun d hd=>tup _ _ _ (htup d hd)) (fun d hd=>?_) hst''
   ·exact hx.imp (fun h=>hext _ _ hgb h) (fun h=>htup _ h)
   ·rw [gh (fun e=>ht (by simp only [bW] at e;simp [aO,bW,e]))];exact hext t v (fun hm=>ht (by simp only [aO,GN,FE];exact .inl hm)) hv
   ·simp only [bf,FM] at hd;subst hd;simp [bW,bc,aj]
theorem rY {own:Nat->Nat} {ops:Array Oper} {Q:Exit->Act->World->Prop} {L:List Blk} {E:Env} {w:World} (l:List SOp) {g:Nat×Bool} {seen:List Nat} {is rest:List Nat} {T:Tm} {a:Act} (hok:okB g seen l=true) (hl:aY P N own ops is=some (SOp.flatL l))
  (hst:St w0 S0 N E T L a w) (hx:aj T g.1=some (.bool (!g.2))\/aj T g.1=some (.tup [])) (hseen:∀ d∈seen,aj T d=some (.tup []))
  (hK:∀ T' a',Ext (aO (SOp.flatL l)) T T'->(∀ d,aj T d=some (.tup [])->aj T' d=some (.tup []))->St w0 S0 N E T' L a' w->wpOpsIn (dt ro) 0 P ops Q rest a' w):wpOpsIn (dt ro) 0 P ops Q (is++rest) a w:=by
 cases l with
 | nil =>
   simp only [SOp.flatL] at hl hK;have:is=[]:=by
    cases is with
    | nil=>rfl
    | cons i is =>
      simp only [aY] at hl;split at hl<;>cases hl
   subst this;exact hK T a (fun _ _ _ h=>h) (fun _ h=>h) hst
 | cons s r =>
   simp only [okB,FG,FH,F6,bne_iff_ne] at hok;obtain ⟨⟨h1,h2⟩,h3⟩:=hok;simp only [SOp.flatL] at hl hK;obtain ⟨js,ks,rfl,h4,h5⟩:=dK hl;rw [FO];refine DY s h1 h4 hst hx hseen fun T' a' e1 e2 e3 hst'=>?_
   have hx':aj T' g.1=some (.bool (!g.2))\/aj T' g.1=some (.tup []):=by
    by_cases hm:g.1∈aO s.flat
    ·cases s with
     | op o =>
       simp only [aO,SOp.flat,List.filterMap_cons,List.filterMap_nil] at hm;cases hd:o.dst with
       | none=>simp [hd] at hm
       | some d =>
         simp [hd] at hm;exact absurd hm.symm (h2 d (by simp [bf,hd])).2
     | grp g' t b body d x =>
       simp only [okO,FG,F6,Gh,decide_eq_false_iff_not] at h1;simp only [aO,SOp.flat,GN,FE] at hm;rcases hm with hm|hm
       ·exact absurd hm h1.1.2
       ·simp [bW] at hm;exact absurd hm.symm (h2 d (by simp [bf])).2
    ·exact hx.imp (e1 _ _ hm) (e2 _)
   refine rY r h3 h5 hst' hx' (fun d hd=>?_) fun T'' a'' f1 f2 hst''=>hK T'' a'' (fun t v ht hv=>?_) (fun d hd=>f2 d (e2 d hd)) hst''
   ·rcases FE.1 hd with hd|hd
    ·exact e3 d hd
    ·exact e2 d (hseen d hd)
   ·simp only [aO,GN,FE,not_or] at ht;exact f1 t v ht.2 (e1 t v ht.1 hv)
end
theorem Fr.put {ds:List Nat} {T:Tm} {d:Option Nat} {v:AV} (h:Fr ds T) (hd:∀ k,d=some k->k ∉ ds):Fr ds (bc d v T):=fun k hk=>by
 rw [gh (fun e=>hd k e hk)];exact h k hk
mutual
theorem BX (s:SOp):∀ d∈gds [s],d∈aO s.flat:=by
 cases s with
 | op o=>simp [gds]
 | grp g t b body d x =>
   intro u hu;simp only [gds,Ge] at hu;simp only [SOp.flat,aO,GN,FE];exact .inl hu
end
theorem qu (s:SOp) (r:List SOp):gds (s::r)=gds [s]++gds r:=by cases s<;>simp [gds]
theorem qt:∀ (l:List SOp),∀ d∈gds l,d∈aO (SOp.flatL l)
 | [],d,h=>by simp [gds] at h
 | s::r,d,h=>by
   rw [qu,FE] at h;simp only [SOp.flatL,aO,GN,FE];exact h.imp (BX s d) (qt r d)
theorem vJ (s:SOp):∀ d∈bf s,d∈aO s.flat:=by
 cases s with
 | op o =>
   intro d hd;simp only [bf,HP] at hd;simp [SOp.flat,aO,hd]
 | grp g t b body d x =>
   intro u hu;simp only [bf,FM] at hu;subst hu;simp [SOp.flat,aO,bW]
mutual
theorem Ec {own:Nat->Nat} {ops:Array Oper} {Q:Exit->Act->World->Prop} {L:List Blk} (s:SOp) {g:Nat×Bool} {seen:List Nat} {is rest:List Nat} {T:Tm} {a:Act} {E:Env} {w:World} {k:Tm->Prop} (hok:okO g seen s=true) (hl:aY P N own ops is=some s.flat)
  (hst:St w0 S0 N E T L a w) (hx:aj T g.1=some (.bool g.2)) (hfr:∀ d∈gds [s],aj T d=none) (h:GO P L s k T)
  (hK:∀ E' T' a' w',E.le E'->k T'->Ext (bf s) T T'->(∀ d,d ∉ bf s->aj T d=none->aj T' d=none)->St w0 S0 N E' T' L a' w'->wpOpsIn (dt ro) 0 P ops Q rest a' w'):wpOpsIn (dt ro) 0 P ops Q (is++rest) a w:=by
 cases s with
 | op o =>
   simp only [SOp.flat] at hl;obtain ⟨i,rfl,h1⟩:=fI hl;simp only [okO,decide_eq_true_eq] at hok;simp only [GO] at h;have ext:∀ v,Ext (bf (.op o)) T (bc o.dst v T):=fun v t x ht hv=>by
    rw [gh (fun e=>ht (by simp [bf,e]))];exact hv
   have fre:∀ v d,d ∉ bf (.op o)->aj T d=none->aj (bc o.dst v T) d=none:=fun v d hd hn=>by
    rw [gh (fun e=>hd (by simp [bf,e]))];exact hn
   have hA:AOp P o (fun T' L'=>L'=L/\∃ v,T'=bc o.dst v T/\k T') T L:=by
    obtain ⟨d,op,gd⟩:=o;have call:∀ {f:FuncId} {args:List AV},Cv P f args L (Cs k d T)->ae P f args L (Kon (fun T' L'=>L'=L/\∃ v,T'=bc d v T/\k T') d T):=fun {f args} ⟨v,h1,h2⟩ =>
     h1.mono fun av L' ⟨e1,e2⟩=>by subst e1;subst e2;exact ⟨rfl,av,rfl,h2⟩
    simp only [GOp] at h;simp only [AOp];cases op
    case call f xs =>
     simp only at h ⊢;cases he:dZ T xs with
     | none=>rw [he] at h;exact h.elim
     | some args=>rw [he] at h;exact call h
    case callv f xs =>
     simp only at h ⊢;cases hf:evX T f with
     | none=>rw [hf] at h;exact h.elim
     | some u =>
       rw [hf] at h;cases he:dZ T xs with
       | none=>rw [he] at h;cases u<;>exact h.elim
       | some args =>
         rw [he] at h;cases u<;>simp only [yq] at h
         exact call h
    all_goals
     simp only at h ⊢;generalize ab T L _=r at h ⊢;cases r with
     | none=>exact h.elim
     | some r =>
       obtain ⟨c,av,L'⟩:=r;exact ⟨h.1,h.2.1,av,rfl,h.2.2⟩
   refine sa h1 hst (.inr ⟨g.1,g.2,hok,hx⟩) hA fun E' T' L' a' w' hle ⟨e1,v,e2,hk⟩ hst'=>?_
   subst e1;subst e2;exact hK E' _ a' w' hle hk (ext v) (fre v) hst'
 | grp g' t b body d x =>
   simp only [okO,FG,decide_eq_true_eq,F6,Gh,decide_eq_false_iff_not] at hok;obtain ⟨⟨⟨⟨hg',ht⟩,htb⟩,hgb⟩,hb⟩:=hok;simp only [SOp.flat] at hl;obtain ⟨js,ks,rfl,h1,h2⟩:=dK hl;obtain ⟨i,rfl,h3⟩:=fI h2;rw [FO];simp only [GO] at h;have hfr':Fr (aO (SOp.flatL body)) T:=fun d' hd'=>hfr d' (by simp [gds,hd'])
   have fin:∀ {E':Env} {T':Tm} {a':Act} {w':World} (p q:Bool),E.le E'->St w0 S0 N E' T' L a' w'->Ext (aO (SOp.flatL body)) T T'->aj T t=some (.bool p)->(p=b->evX T' x=some (.bool q))->k ((d,.bool (mrg b p q))::T)->wpOpsIn (dt ro) 0 P ops Q ([i]++rest) a' w':=fun {E' T' a' w'} p q hle hst' hext hp hq hk=>by
    have hv:ab T' L (.pick (.tmp t) (if b then x else .av (.bool true)) (if b then .av (.bool false) else x))=some (True,.bool (mrg b p q),L):=by
     have ht':aj T' t=some (.bool p):=hext _ _ htb hp;cases b<;>cases p<;>simp [ab,evX,ht',mrg]<;>exact hq rfl
    refine sa h3 hst' (.inr ⟨g.1,g.2,by simp [bW,hg'],hext _ _ hgb hx⟩) (K:=fun T'' L''=>T''=(d,.bool (mrg b p q))::T'/\L''=L) ?_ fun E'' T'' L'' a'' w'' hle' ⟨e1,e2⟩ hst''=>?_
    ·simp only [bW,AOp,hv,Res,bc,and_self]
    ·subst e1;subst e2;refine hK E'' ((d,.bool (mrg b p q))::T) a'' w'' (hle.trans hle') hk (fun u v hu hv=>?_) (fun u hu hn=>?_) ⟨hst''.1,hst''.2.1.weak fun u v hu=>?_,hst''.2.2⟩
     ·simp only [bf,FM] at hu;simp only [aj];rw [if_neg (Ne.symm hu)];exact hv
     ·simp only [bf,FM] at hu;simp only [aj];rw [if_neg (Ne.symm hu)];exact hn
     ·simp only [aj] at hu ⊢;split
      ·rename_i e;rw [if_pos e] at hu;exact hu
      ·rename_i e
       rw [if_neg e] at hu;refine hext u v (fun hm=>?_) hu;rw [hfr' u hm] at hu;cases hu
   rcases hp:aj T t with _|u
   ·rw [hp] at h;exact h.elim
   rw [hp] at h;cases u<;>try exact h.elim
   rename_i p
   obtain ⟨q,hq,hk⟩:=h;by_cases e:p=b
   ·subst e;refine u0 body hb h1 hst hp (fun d hd=>hfr' d (qt body d hd)) (hq rfl) fun E' T' a' w' hle hx' hext hst'=>fin p q hle hst' hext hp (fun _=>hx') hk
   ·have:p = !b:=by cases p<;>cases b<;>simp_all
    refine rY body hb h1 hst (.inl (by rw [hp,this])) (by simp) fun T' a' hext _ hst'=>fin p q (.refl E) hst' hext hp (fun e'=>absurd e' e) hk
theorem u0 {own:Nat->Nat} {ops:Array Oper} {Q:Exit->Act->World->Prop} {L:List Blk} (l:List SOp) {g:Nat×Bool} {seen:List Nat} {is rest:List Nat} {T:Tm} {a:Act} {E:Env} {w:World} {k:Tm->Prop} (hok:okB g seen l=true) (hl:aY P N own ops is=some (SOp.flatL l))
  (hst:St w0 S0 N E T L a w) (hx:aj T g.1=some (.bool g.2)) (hfr:Fr (gds l) T) (h:GL P L l k T)
  (hK:∀ E' T' a' w',E.le E'->k T'->Ext (aO (SOp.flatL l)) T T'->St w0 S0 N E' T' L a' w'->wpOpsIn (dt ro) 0 P ops Q rest a' w'):wpOpsIn (dt ro) 0 P ops Q (is++rest) a w:=by
 cases l with
 | nil =>
   simp only [SOp.flatL] at hl;have:is=[]:=by
    cases is with
    | nil=>rfl
    | cons i is =>
      simp only [aY] at hl;split at hl<;>cases hl
   subst this;rw [GL] at h;exact hK E T a w (.refl E) h (fun _ _ _ h=>h) hst
 | cons s r =>
   simp only [okB,FG,FH,F6,bne_iff_ne,Gh,decide_eq_false_iff_not] at hok;obtain ⟨⟨h1,h2⟩,h3⟩:=hok;simp only [SOp.flatL] at hl;obtain ⟨js,ks,rfl,h4,h5⟩:=dK hl;rw [FO];rw [GL] at h;rw [qu] at hfr;refine Ec s h1 h4 hst hx (fun d hd=>hfr d (Gt _ hd)) h fun E' T' a' w' hle hk' e1 e2 hst'=>?_
   refine u0 r h3 h5 hst' (e1 _ _ (fun hm=>(h2 _ hm).2 rfl) hx) (fun d hd=>e2 d (fun hm=>(h2 d hm).1 hd) (hfr d (GX _ hd))) hk' fun E'' T'' a'' w'' hle' hk'' f1 hst''=>hK E'' T'' a'' w'' (hle.trans hle') hk'' (fun t v ht hv=>?_) hst''
   simp only [SOp.flatL,aO,GN,FE,not_or] at ht;exact f1 t v ht.2 (e1 t v (fun hm=>ht.1 (vJ s t hm)) hv)
end
theorem Dv {o:af} {K:Tm->List Blk->Prop} {T:Tm} {L:List Blk} (h:AOp P o K T L):AOp P o (fun T' L'=>K T' L'/\∃ v,T'=bc o.dst v T) T L:=by
 obtain ⟨d,op,gd⟩:=o;have call:∀ {f:FuncId} {args:List AV},ae P f args L (Kon K d T)->ae P f args L (Kon (fun T' L'=>K T' L'/\∃ v,T'=bc d v T) d T):=fun {f args} h=>h.mono fun av L' h=>⟨h,av,rfl⟩
 simp only [AOp] at h ⊢;cases op
 case call f xs =>
  simp only at h ⊢;cases he:dZ T xs with
  | none=>rw [he] at h;exact h.elim
  | some args=>rw [he] at h;exact call h
 case callv f xs =>
  simp only at h ⊢;cases hf:evX T f with
  | none=>rw [hf] at h;cases he:dZ T xs<;>rw [he] at h<;>exact h.elim
  | some u =>
    rw [hf] at h;cases he:dZ T xs with
    | none=>rw [he] at h;cases u<;>exact h.elim
    | some args =>
      rw [he] at h;cases u<;>simp only [zB] at h
      case yld i=>exact tZ.mono h fun av L' h=>⟨h,av,rfl⟩
      exact call h
 all_goals
  simp only at h ⊢;generalize ab T L _=r at h ⊢;cases r with
  | none=>exact h.elim
  | some r=>exact ⟨h.1,h.2,r.2.1,rfl⟩
theorem l9 {own:Nat->Nat} {ops:Array Oper} {Q:Exit->Act->World->Prop} {K:Tm->List Blk->Prop}:∀ (l:List SOp) {is:List Nat} {T:Tm} {L:List Blk} {a:Act} {E:Env} {w:World},okS l=true->aY P N own ops is=some (SOp.flatL l) ->
  St w0 S0 N E T L a w->Fr (gds l) T->SL P l K T L->(∀ E' T' L' a' w',E.le E'->K T' L'->St w0 S0 N E' T' L' a' w'->Q .normal a' w')->wpOpsIn (dt ro) 0 P ops Q is a w
 | [],is,T,L,a,E,w,hok,hl,hst,hfr,h,hK=>by
   simp only [SOp.flatL] at hl;have:is=[]:=by
    cases is with
    | nil=>rfl
    | cons i is =>
      simp only [aY] at hl;split at hl<;>cases hl
   subst this;exact hK E T L a w (.refl E) h hst
 | .op o::r,is,T,L,a,E,w,hok,hl,hst,hfr,h,hK=>by
   simp only [okS,FG,FH,HP,F6,Gh,decide_eq_false_iff_not] at hok;simp only [SOp.flatL,SOp.flat,Hz] at hl;obtain ⟨js,ks,rfl,h1,h2⟩:=dK (l:=[o]) hl;obtain ⟨i,rfl,h3⟩:=fI h1;have hfr':∀ v,Fr (gds r) (bc o.dst v T):=fun v=>Fr.put (ds:=gds r) hfr fun k hk=>hok.1 k hk
   have run:(o.guard=none\/∃ t b,o.guard=some (t,b)/\aj T t=some (.bool b))->AOp P o (SL P r K) T L->wpOpsIn (dt ro) 0 P ops Q ([i]++ks) a w:=fun hg h =>
    sa h3 hst hg (Dv h) fun E' T' L' a' w' hle ⟨hs,v,e⟩ hst'=>by
     subst e;exact l9 r hok.2 h2 hst' (hfr' v) hs fun E'' T'' L'' a'' w'' hle'=>hK E'' T'' L'' a'' w'' (hle.trans hle')
   have skip:∀ t b,o.guard=some (t,b)->(aj T t=some (.bool (!b))\/aj T t=some (.tup []))->SL P r K (bc o.dst (.tup []) T) L->wpOpsIn (dt ro) 0 P ops Q ([i]++ks) a w:=fun t b hg hx h =>
    sM h3 hst hg hx fun a' hst'=>l9 r hok.2 h2 hst' (hfr' _) h hK
   rw [SL] at h;rcases hg:o.guard with _|⟨t,b⟩
   ·rw [hg] at h;exact run (.inl hg) h
   ·rw [hg] at h;simp only at h;rcases hx:aj T t with _|u
    ·rw [hx] at h;exact h.elim
    rw [hx] at h;cases u<;>try exact h.elim
    ·rename_i x
     rw [nj] at h;by_cases e:x=b
     ·rw [if_pos e] at h;exact run (.inr ⟨t,b,hg,by rw [hx,e]⟩) h
     ·rw [if_neg e] at h;have:x = !b:=by cases x<;>cases b<;>simp_all
      exact skip t b hg (.inl (by rw [hx,this])) h
    ·rename_i l
     cases l with
     | cons _ _=>exact h.elim
     | nil=>exact skip t b hg (.inr hx) h
 | .grp g t b body d x::r,is,T,L,a,E,w,hok,hl,hst,hfr,h,hK=>by
   simp only [okS,FG,decide_eq_true_eq,F6,Gh,decide_eq_false_iff_not] at hok;obtain ⟨⟨⟨⟨hg,htb⟩,hb⟩,hd⟩,hr⟩:=hok;simp only [SOp.flatL,SOp.flat,FO] at hl;obtain ⟨js,ks',rfl,h1,h2⟩:=dK hl;obtain ⟨is',ks,rfl,h2',h4⟩:=dK h2;obtain ⟨i,rfl,h3⟩:=fI h2';rw [SL] at h;have hfr1:Fr (aO (SOp.flatL body)) T:=fun d' hd'=>hfr d' (by simp [gds,hd'])
   have hfr2:Fr (gds r) T:=fun d' hd'=>hfr d' (by simp [gds,hd'])
   have fin:∀ {E':Env} {T':Tm} {a':Act} {w':World} (p q:Bool),E.le E'->St w0 S0 N E' T' L a' w'->Ext (aO (SOp.flatL body)) T T'->aj T t=some (.bool p)->(p=b->evX T' x=some (.bool q))->SL P r K ((d,.bool (mrg b p q))::T) L->wpOpsIn (dt ro) 0 P ops Q ([i]++ks) a' w':=fun {E' T' a' w'} p q hle hst' hext hp hq hk=>by
    have hv:ab T' L (.pick (.tmp t) (if b then x else .av (.bool true)) (if b then .av (.bool false) else x))=some (True,.bool (mrg b p q),L):=by
     have ht':aj T' t=some (.bool p):=hext _ _ htb hp;cases b<;>cases p<;>simp [ab,evX,ht',mrg]<;>exact hq rfl
    refine sa h3 hst' (.inl (by simp [bW,hg])) (K:=fun T'' L''=>T''=(d,.bool (mrg b p q))::T'/\L''=L) ?_ fun E'' T'' L'' a'' w'' hle' ⟨e1,e2⟩ hst''=>?_
    ·simp only [bW,AOp,hv,Res,bc,and_self]
    ·subst e1;subst e2;refine l9 r hr h4 (T:=(d,.bool (mrg b p q))::T) ⟨hst''.1,hst''.2.1.weak fun u v hu=>?_,hst''.2.2⟩ (Fr.put (d:=some d) hfr2 fun k hk=>by cases hk;exact hd) hk fun E3 T3 L3 a3 w3 hle3=>hK E3 T3 L3 a3 w3 ((hle.trans hle').trans hle3)
     simp only [aj] at hu ⊢;split
     ·rename_i e;rw [if_pos e] at hu;exact hu
     ·rename_i e
      rw [if_neg e] at hu;refine hext u v (fun hm=>?_) hu;rw [hfr1 u hm] at hu;cases hu
   rcases hp:aj T t with _|u
   ·rw [hp] at h;exact h.elim
   rw [hp] at h;cases u<;>try exact h.elim
   rename_i p
   obtain ⟨q,hq,hk⟩:=h;by_cases e:p=b
   ·subst e;exact u0 body hb h1 hst hp (fun d hd=>hfr1 d (qt body d hd)) (hq rfl) fun E' T' a' w' hle hx' hext hst'=>fin p q hle hst' hext hp (fun _=>hx') hk
   ·have:p = !b:=by cases p<;>cases b<;>simp_all
    exact rY body hb h1 hst (.inl (by rw [hp,this])) (by simp) fun T' a' hext _ hst'=>fin p q (.refl E) hst' hext hp (fun e'=>absurd e' e) hk
end
theorem De {p b:Bool} (h:¬ p=b):p = !b:=by cases p<;>cases b<;>simp_all
mutual
def uQ (g:Option (Nat×Bool)) (seen D:List Nat):SOp->Bool
 | .op o=>decide (o.guard=g) && o.reads.all (fun t => !D.contains t)
 | .grp g' t b body d x=>decide (g'=g) && (g.isNone || seen.contains t) && !D.contains t && !(aO (SOp.flatL body)).contains t && (match g with|some g1 => !(aO (SOp.flatL body)).contains g1.1|none=>true) &&
  x.tmps.all (fun t => !(D++gds body).contains t) && okG (some (t,b)) [] D body
def okG (g:Option (Nat×Bool)) (seen D:List Nat):List SOp->Bool
 | []=>true
 | s::r=>uQ g seen D s && (bf s).all (fun d => !(D++gds [s]).contains d && !(gds r).contains d && (match g with|some g1=>d != g1.1|none=>true)) && okG g (bf s++seen) (D++gds [s]) r
end
section
variable {P:Program} {L:List Blk} {K:Tm->List Blk->Prop}
def AR (P:Program) (K:Tm->List Blk->Prop) (l:List af) (L:List Blk) (T:Tm):Prop:=AG P K (l.map fun o=>(o,.read 0 0)) [L] [] T
theorem Ez {T:Tm} (h:K T L):AR P K [] L T:=h
theorem sg {o:af} {r:List af} {T:Tm} {v:AV} (h1:AQ P o T L v) (h2:AR P K r L (bc o.dst v T)):AR P K (o::r) L T:=by
 refine ⟨v,fun L' hL'=>?_,h2⟩;simp at hL';subst hL';exact h1
def Agr (D:List Nat) (T T1:Tm):Prop:=∀ t,t ∉ D->aj T1 t=aj T t
theorem Agr.put {D:List Nat} {T T1:Tm} (h:Agr D T T1) (d:Option Nat) (v:AV):Agr D (bc d v T) (bc d v T1):=fun t ht=>by
 cases d with
 | none=>exact h t ht
 | some d=>simp only [bc,aj];split;rfl;exact h t ht
theorem vS {d:Option Nat} {T:Tm} {t:Nat} (h:aj T t=some (.tup [])):aj (bc d (.tup []) T) t=some (.tup []):=by
 cases d with
 | none=>exact h
 | some d=>simp only [bc,aj];split;rfl;exact h
mutual
theorem Do (s:SOp) {g:Nat×Bool} {seen D:List Nat} {rest:List af} {T:Tm} (hok:uQ (some g) seen D s=true) (hx:aj T g.1=some (.bool (!g.2))\/aj T g.1=some (.tup [])) (hseen:∀ d∈seen,aj T d=some (.tup []))
  (hK:∀ T',(∀ t,t ∉ aO s.flat->aj T' t=aj T t)->(∀ d,aj T d=some (.tup [])->aj T' d=some (.tup []))->(∀ d∈bf s,aj T' d=some (.tup []))->AR P K rest L T'):AR P K (s.flat++rest) L T:=by
 have skip:∀ (o:af) (T:Tm),o.guard=some g->(aj T g.1=some (.bool (!g.2))\/aj T g.1=some (.tup []))->AQ P o T L (.tup []):=fun o T hg hx=>by
  obtain ⟨t,b⟩:=g;simp only [AQ,hg];rcases hx with hx|hx<;>simp only at hx<;>rw [hx]<;>simp
 cases s with
 | op o =>
   simp only [uQ,FG,decide_eq_true_eq] at hok;refine sg (skip o T hok.1 hx) (hK _ (fun t ht=>gh fun e=>ht (by simp [SOp.flat,aO,e])) (fun d hd=>vS hd) fun d hd=>?_);simp only [bf,HP] at hd;rw [hd];simp [bc,aj]
 | grp g' t b body d x =>
   simp only [uQ,FG,decide_eq_true_eq,Option.isNone_some,Hk,F6,Gh,decide_eq_false_iff_not] at hok;obtain ⟨⟨⟨⟨⟨⟨hg',ht⟩,_⟩,htb⟩,hgb⟩,_⟩,hb⟩:=hok;simp only [SOp.flat,FO];refine tD body hb (.inr (hseen t (by simpa using ht))) (by simp) fun T' h1 h2=>?_
   refine sg (o:=bW g' t b d x) (v:=.tup []) (skip _ T' (by simp [bW,hg']) (by rw [h1 _ hgb];exact hx)) (hK _ (fun u hu=>?_) (fun u hu=>vS (h2 u hu)) fun u hu=>?_)
   ·rw [gh (fun e=>hu (by simp only [bW] at e;simp [SOp.flat,aO,bW,e]))];exact h1 u fun hm=>hu (by simp only [SOp.flat,aO,GN,FE];exact .inl hm)
   ·simp only [bf,FM] at hu;subst hu;simp [bW,bc,aj]
theorem tD (l:List SOp) {g:Nat×Bool} {seen D:List Nat} {rest:List af} {T:Tm} (hok:okG (some g) seen D l=true) (hx:aj T g.1=some (.bool (!g.2))\/aj T g.1=some (.tup [])) (hseen:∀ d∈seen,aj T d=some (.tup []))
  (hK:∀ T',(∀ t,t ∉ aO (SOp.flatL l)->aj T' t=aj T t)->(∀ d,aj T d=some (.tup [])->aj T' d=some (.tup []))->AR P K rest L T'):AR P K (SOp.flatL l++rest) L T:=by
 cases l with
 | nil=>exact hK T (fun _ _=>rfl) (fun _ h=>h)
 | cons s r =>
   simp only [okG,FG,FH,F6,bne_iff_ne] at hok;obtain ⟨⟨h1,h2⟩,h3⟩:=hok;simp only [SOp.flatL,FO];refine Do s h1 hx hseen fun T' e1 e2 e3=>?_
   have hx':aj T' g.1=some (.bool (!g.2))\/aj T' g.1=some (.tup []):=by
    by_cases hm:g.1∈aO s.flat
    ·cases s with
     | op o =>
       simp only [aO,SOp.flat,List.filterMap_cons,List.filterMap_nil] at hm;cases hd:o.dst with
       | none=>simp [hd] at hm
       | some d =>
         simp [hd] at hm;exact absurd hm.symm (h2 d (by simp [bf,hd])).2
     | grp g' t b body d x =>
       simp only [uQ,FG,F6,Gh,decide_eq_false_iff_not] at h1;simp only [aO,SOp.flat,GN,FE] at hm;rcases hm with hm|hm
       ·exact absurd hm h1.1.1.2
       ·simp [bW] at hm;exact absurd hm.symm (h2 d (by simp [bf])).2
    ·exact hx.imp (fun h=>by rw [e1 _ hm];exact h) (e2 _)
   refine tD r h3 hx' (fun d hd=>?_) fun T'' f1 f2=>hK T'' (fun t ht=>?_) (fun d hd=>f2 d (e2 d hd))
   ·rcases FE.1 hd with hd|hd
    ·exact e3 d hd
    ·exact e2 d (hseen d hd)
   ·simp only [SOp.flatL,aO,GN,FE,not_or] at ht;rw [f1 t ht.2,e1 t ht.1]
end
def qj (l:List SOp):List Nat:=l.flatMap bf
theorem ug:∀ (l:List SOp),∀ d∈qj l,d∈aO (SOp.flatL l)
 | [],d,h=>by simp [qj] at h
 | s::r,d,h=>by
   simp only [qj,HA,FE] at h;simp only [SOp.flatL,aO,GN,FE];exact h.imp (vJ s d) (ug r d)
theorem Er {o:af} {k:Tm->Prop} {T:Tm} (h:GOp P L o k T):∃ v,AQv P o T L v/\k (bc o.dst v T):=by
 obtain ⟨d,op,gd⟩:=o;simp only [GOp] at h;unfold AQv;cases op
 case call f xs =>
  simp only at h ⊢;cases he:dZ T xs with
  | none=>rw [he] at h;exact h.elim
  | some args=>rw [he] at h;obtain ⟨v,h1,h2⟩:=h;exact ⟨v,h1,h2⟩
 case callv f xs =>
  simp only at h ⊢;cases hf:evX T f with
  | none=>rw [hf] at h;exact h.elim
  | some u =>
    rw [hf] at h;cases he:dZ T xs with
    | none=>rw [he] at h;cases u<;>exact h.elim
    | some args =>
      rw [he] at h;cases u<;>simp only [yq] at h
      obtain ⟨v,h1,h2⟩:=h;exact ⟨v,h1,h2⟩
 all_goals
  simp only at h ⊢;generalize ab T L _=r at h ⊢;cases r with
  | none=>exact h.elim
  | some r =>
    obtain ⟨c,av,L'⟩:=r;exact ⟨av,⟨h.1,rfl,h.2.1⟩,h.2.2⟩
mutual
theorem Eg (s:SOp) {g:Option (Nat×Bool)} {seen D:List Nat} {rest:List af} {T T1:Tm} {k:Tm->Prop} (hok:uQ g seen D s=true) (hx:∀ g1,g=some g1->g1.1 ∉ D/\aj T g1.1=some (.bool g1.2)) (hfr:∀ d∈gds [s],aj T d=none) (ha:Agr D T T1) (h:GO P L s k T)
  (hK:∀ T' T1',k T'->Agr (D++gds [s]) T' T1'->(∀ t,t ∉ bf s->aj T' t=aj T t)->AR P K rest L T1'):AR P K (s.flat++rest) L T1:=by
 cases s with
 | op o =>
   simp only [uQ,FG,decide_eq_true_eq,FH,F6,Gh,decide_eq_false_iff_not] at hok;simp only [GO] at h;obtain ⟨v,h1,h2⟩:=Er h;have hq:AQ P o T L v:=by
    unfold AQ;rw [hok.1];cases g with
    | none=>exact h1
    | some g1 =>
      obtain ⟨t,b⟩:=g1;have:=(hx _ rfl).2;simp only at this ⊢;rw [this];simp [h1]
   refine sg (hq.congr fun t ht=>(ha t (hok.2 t ht)).symm) (hK _ _ h2 (fun t ht=>?_) fun t ht=>gh fun e=>ht (by simp [bf,e]));exact (ha.put _ _) t fun hm=>ht (Gt _ hm)
 | grp g' t b body d x =>
   simp only [uQ,FG,decide_eq_true_eq,FH,F6,Gh,decide_eq_false_iff_not] at hok;obtain ⟨⟨⟨⟨⟨⟨hg',_⟩,htD⟩,htb⟩,hgb⟩,hxD⟩,hb⟩:=hok;simp only [GO] at h;have hfr':∀ u∈aO (SOp.flatL body),aj T u=none:=fun u hu=>hfr u (by simp [gds,hu])
   have hgd:gds [SOp.grp g' t b body d x]=aO (SOp.flatL body):=by simp [gds]
   rw [hgd] at hK;simp only [SOp.flat,FO];have fin:∀ {T1b:Tm} (p q:Bool),aj T t=some (.bool p)->(∀ u,u ∉ D->u ∉ aO (SOp.flatL body)->aj T1b u=aj T u)->(p=b->evX T1b x=some (.bool q))->k ((d,.bool (mrg b p q))::T)->AR P K ([bW g' t b d x]++rest) L T1b:=fun {T1b} p q hp hT hq hk=>by
    have hv:ab T1b L (.pick (.tmp t) (if b then x else .av (.bool true)) (if b then .av (.bool false) else x))=some (True,.bool (mrg b p q),L):=by
     have ht':aj T1b t=some (.bool p):=by rw [hT t htD htb];exact hp
     cases b<;>cases p<;>simp [ab,evX,ht',mrg]<;>exact hq rfl
    have hqv:AQv P (bW g' t b d x) T1b L (.bool (mrg b p q)):=by
     simp only [AQv,bW,hv,and_self]
    have hq:AQ P (bW g' t b d x) T1b L (.bool (mrg b p q)):=by
     unfold AQ;cases g with
     | none=>simp only [bW,hg'];exact hqv
     | some g1 =>
       obtain ⟨t1,b1⟩:=g1;have h1:=hx _ rfl;simp only [bW,hg'];rw [show aj T1b t1=some (.bool b1) by rw [hT t1 h1.1 (by simpa using hgb)];exact h1.2];simp;exact hqv
    refine sg hq (hK ((d,.bool (mrg b p q))::T) _ hk (fun u hu=>?_) fun u hu=>?_)
    ·simp only [FE,not_or] at hu;simp only [bW,bc,aj];split
     ·rfl
     ·exact hT u hu.1 hu.2
    ·simp only [bf,FM] at hu;simp only [aj];rw [if_neg (Ne.symm hu)]
   rcases hp:aj T t with _|u
   ·rw [hp] at h;exact h.elim
   rw [hp] at h;cases u<;>try exact h.elim
   rename_i p
   obtain ⟨q,hq,hk⟩:=h;by_cases e:p=b
   ·subst e;refine vl body hb (fun g1 e=>by cases e;exact ⟨htD,hp⟩) (fun u hu=>hfr' u (qt body u hu)) ha (hq rfl) fun Tb T1b hxb hab hTb=>fin p q hp (fun u h1 h2=>?_) (fun _=>?_) hk
    ·rw [hab u (by simp only [FE,not_or];exact ⟨h1,fun hm=>h2 (qt body u hm)⟩)];exact hTb u fun hm=>h2 (ug body u hm)
    ·have hxb':evX Tb x=some (.bool q):=hxb;rw [<- hxb'];cases x with
     | av a=>rfl
     | tmp t'=>exact hab t' (by have:=hxD t' (by simp [Opd.tmps]);simpa using this)
   ·have:p = !b:=De e;refine tD body hb (.inl (by show aj T1 t=_;rw [ha t htD,hp,this])) (by simp) fun T1b h1 _=>fin p q hp (fun u h2 h3=>?_) (fun e'=>absurd e' e) hk
    rw [h1 u h3,ha u h2]
theorem vl (l:List SOp) {g:Option (Nat×Bool)} {seen D:List Nat} {rest:List af} {T T1:Tm} {k:Tm->Prop} (hok:okG g seen D l=true) (hx:∀ g1,g=some g1->g1.1 ∉ D/\aj T g1.1=some (.bool g1.2)) (hfr:∀ d∈gds l,aj T d=none) (ha:Agr D T T1) (h:GL P L l k T)
  (hK:∀ T' T1',k T'->Agr (D++gds l) T' T1'->(∀ t,t ∉ qj l->aj T' t=aj T t)->AR P K rest L T1'):AR P K (SOp.flatL l++rest) L T1:=by
 cases l with
 | nil =>
   rw [GL] at h;exact hK T T1 h (by simpa [gds] using ha) (fun _ _=>rfl)
 | cons s r =>
   simp only [okG,FG,FH,F6,Gh,decide_eq_false_iff_not] at hok;obtain ⟨⟨h1,h2'⟩,h3⟩:=hok;have h2:∀ d∈bf s,d ∉ gds r:=fun d hd=>(h2' d hd).1.2
   simp only [SOp.flatL,FO];rw [GL] at h;rw [qu] at hfr hK;refine Eg s h1 hx (fun d hd=>hfr d (Gt _ hd)) ha h fun T' T1' hk e1 e2=>?_
   refine vl r h3 (fun g1 hg=>?_) (fun d hd=>?_) e1 hk fun T'' T1'' hk' f1 f2=>hK T'' T1'' hk' (by rwa [FO] at f1) fun t ht=>?_
   ·subst hg;have hne:g1.1 ∉ bf s:=fun hm=>by
     have:=(h2' _ hm).2;simp at this
    have hng:g1.1 ∉ gds [s]:=fun hm=>by
     cases s with
     | op o=>simp [gds] at hm
     | grp g' t b body d x =>
       simp only [uQ,FG,F6,Gh,decide_eq_false_iff_not] at h1;simp only [gds,Ge] at hm;exact h1.1.1.2 hm
    have h4:=hx g1 rfl;exact ⟨by simp only [FE,not_or];exact ⟨h4.1,hng⟩,by rw [e2 _ hne];exact h4.2⟩
   ·rw [e2 d (fun hm=>h2 d hm hd)];exact hfr d (GX _ hd)
   ·simp only [qj,HA,FE,not_or] at ht;rw [f2 t ht.2,e2 t ht.1]
end
theorem vK:∀ (l:List SOp) {g:Option (Nat×Bool)} {seen D:List Nat},okG g seen D l=true->∀ t∈qj l,t ∉ D++gds l
 | [],_,_,_,_,t,h=>by simp [qj] at h
 | s::r,g,seen,D,hok,t,h=>by
   simp only [okG,FG,FH,F6,Gh,decide_eq_false_iff_not] at hok;obtain ⟨⟨h1,h2⟩,h3⟩:=hok;rw [qu];simp only [qj,HA,FE] at h;rcases h with h|h
   ·have:=(h2 t h).1;simp only [FE,not_or] at this ⊢;exact ⟨this.1.1,this.1.2,this.2⟩
   ·have:=vK r h3 t h;simp only [FE,not_or] at this ⊢;exact ⟨this.1.1,this.1.2,this.2⟩
theorem zp {l:List SOp} {T:Tm} {k:Tm->Prop} (hok:okG none [] [] l=true) (hfr:Fr (gds l) T) (h:GL P L l k T):AR P (fun T1 L'=>L'=L/\∃ T',k T'/\∀ t v,aj T' t=some v->aj T1 t=some v) (SOp.flatL l) L T:=by
 have:=vl (K:=fun T1 L'=>L'=L/\∃ T',k T'/\∀ t v,aj T' t=some v->aj T1 t=some v) (rest:=[]) l hok (fun _ e=>by cases e) hfr (T1:=T) (fun _ _=>rfl) h fun T' T1' hk e1 e2=>Ez ⟨rfl,T',hk,fun t v hv=>?_⟩
 ·simpa using this
 ·by_cases hm:t∈gds l
  ·by_cases ho:t∈qj l
   ·exact absurd (by simpa using hm) (vK l hok t ho)
   ·rw [e2 t ho,hfr t hm] at hv;cases hv
  ·rw [e1 t (by simpa using hm)];exact hv
end
section
variable {P:Program} {r:Option Nat} {w0:World} {S0:SB} {N:Nat}
inductive aP where
 | skip
 | sreg (sops:List SOp) (mask:List Bool)
 | sdreg (sops:List SOp) (kds:List Kd) (mask:List Bool)
 | dregM (qk:List (af×Kd)) (ts:List af) (mask:List Bool)
 | region (ops:List af)
 | dregion (qk:List (af×Kd)) (ts:List af)
 | seq (a b:aP)
 | cond (c:Opd) (a b:aP)
 | block (id:Nat) (c:aP)
 | loop (c:aP)
 | exit (id:Nat)
 | ret
 | rangeF (g:Opd) (ps:List Nat) (x y:aP)
 | scope (c:aP)
 | label
 deriving Inhabited
def aP.raw:aP->aP
 | .sreg s _=>.region (SOp.flatL s)
 | .dregM qk ts _=>.dregion qk ts
 | .sdreg s kds _=>.dregion ((SOp.flatL s).zip kds) ((SOp.flatL s).drop kds.length)
 | .seq a b=>.seq a.raw b.raw
 | .cond c a b=>.cond c a.raw b.raw
 | .block id c=>.block id c.raw
 | .loop c=>.loop c.raw
 | .rangeF g ps x y=>.rangeF g ps x.raw y.raw
 | .scope c=>.scope c.raw
 | c=>c
def aP.hasRF:aP->Bool
 | .seq a b=>a.hasRF || b.hasRF
 | .cond _ a b=>a.hasRF || b.hasRF
 | .block _ c=>c.hasRF
 | .loop c=>c.hasRF
 | .scope c=>c.hasRF
 | .rangeF ..=>true
 | _=>false
theorem aP.hasRF_raw:∀ c:aP,c.raw.hasRF=c.hasRF
 | .seq a b=>by simp [aP.raw,aP.hasRF,hasRF_raw a,hasRF_raw b]
 | .cond c a b=>by simp [aP.raw,aP.hasRF,hasRF_raw a,hasRF_raw b]
 | .block _ c=>by simp [aP.raw,aP.hasRF,hasRF_raw c]
 | .loop c=>by simp [aP.raw,aP.hasRF,hasRF_raw c]
 | .scope c=>by simp [aP.raw,aP.hasRF,hasRF_raw c]
 | .rangeF ..=>rfl
 | .skip | .label | .sreg .. | .sdreg .. | .dregM .. | .region .. | .dregion .. | .exit .. | .ret=>rfl
def LOp.effB:LOp->Bool
 | .alloc _ | .box _ | .s2bO _ | .s2bG _ | .rangeS _ | .nextS _ | .store .. | .mkslice .. | .app .. | .appz .. | .copy .. | .clear .. | .mkmap | .mset .. | .mdel .. | .mrange _ | .mnext _=>true
 | .bslice own ..=>own
 | _=>false
def EM (own:Nat->Nat) (i:Nat) (o:af):Bool:=o.op.effB || own i == 3
def D7 (eff:Nat->af->Bool) (tbl:List Nat) (es:List Nat) (i:Nat) (o:af):Kd :=
 if o.op.pureB=true then .pure else if eff i o=true then .eff
 else .read (es.filter fun e=>decide (e<i) && !(tbl.getD i 0).testBit e).length (es.filter fun e=>decide (i<e) && !(tbl.getD e 0).testBit i).length
def uU (eff:Nat->af->Bool) (tbl:List Nat) (qs:List af):List (af×Kd) :=
 let es:=(qs.zipIdx.filter fun p=>eff p.2 p.1).map (·.2)
 qs.zipIdx.map fun p=>(p.1,D7 eff tbl es p.2 p.1)
theorem vT (eff:Nat->af->Bool) (tbl:List Nat) (qs:List af):(uU eff tbl qs).map (·.1)=qs:=by
 simp [uU,FR,Function.comp_def]
def aB (P:Program) (N:Nat) (own:Nat->Nat->Nat):Code->Option aP
 | .skip=>some .skip
 | .region id ops false=>(aY P N (own id) ops (List.range ops.size)).map .region
 | .region id ops true=>(aY P N (own id) ops (List.range ops.size)).bind fun los =>
   let n:=uD (gw ops.toList []) 0 los.length
   let qk:=uU (EM (own id)) (gw ops.toList []) (los.take n)
   if (mZ ops los n && decide (n<=los.length) && P.follows .mixedOrders && qQ (gw ops.toList []) qk)=true then some (.dregion qk (los.drop n)) else none
 | .seq a b=>match aB P N own a,aB P N own b with
   | some x,some y=>some (.seq x y)
   | _,_=>none
 | .cond c a b=>match aR c,aB P N own a,aB P N own b with
   | some c,some x,some y=>some (.cond c x y)
   | _,_,_=>none
 | .block id c=>(aB P N own c).map (.block id)
 | .loop c=>(aB P N own c).map .loop
 | .exit id=>some (.exit id)
 | .ret=>some .ret
 | .scope c=>(aB P N own c).map .scope
 | .label _=>some .label
 | .rangeFunc g ps x y=>match aR g,aB P N own x,aB P N own y with
   | some g,some x,some y=>if (!x.hasRF && !y.hasRF && ps.all fun p=>decide (p<N))=true then some (.rangeF g ps.toList x y) else none
   | _,_,_=>none
 | _=>none
structure Bs (w0:World) (S0:SB) (w1:World) (S1:SB):Prop where
 size:w0.heap.size<=w1.heap.size
 fr:∀ k,k<w0.heap.size->¬ S0 k->¬ S1 k/\w1.heap[k]?=w0.heap[k]?
 sub:∀ k,S1 k->S0 k\/w0.heap.size<=k
 os:w1.os=w0.os
 tape:w1.tape=w0.tape
 output:w1.output=w0.output
 low:S1.B=S0.B
theorem Bs.refl (w0:World) (S0:SB):Bs w0 S0 w0 S0:=⟨Fz _,fun _ _ h=>⟨h,rfl⟩,fun _ h=>.inl h,rfl,rfl,rfl,rfl⟩
theorem Bs.trans {w0 w1 w2:World} {S0 S1 S2:SB} (h:Bs w0 S0 w1 S1) (k:Bs w1 S1 w2 S2):Bs w0 S0 w2 S2 :=
 ⟨F3 h.size k.size,fun i hi hs=>by
  obtain ⟨h1,h2⟩:=h.fr i hi hs;obtain ⟨h3,h4⟩:=k.fr i (GH hi h.size) h1;exact ⟨h3,h4.trans h2⟩,fun i hi=>by
  rcases k.sub i hi with h1|h1
  ·exact h.sub i h1
  ·exact .inr (F3 h.size h1),k.os.trans h.os,k.tape.trans h.tape,k.output.trans h.output,k.low.trans h.low⟩
theorem Bs.rel {w0 w1 w:World} {S0 S1:SB} (h:Bs w0 S0 w1 S1) {E:Env} {L:List Blk} (hR:Rel w1 S1 E L w):Rel w0 S0 E L w :=
 ⟨hR.mem,hR.blk,hR.fresh,fun i k c h1 h2 h3=>⟨(hR.own i k c h1 h2 h3).1,by
  rcases (hR.own i k c h1 h2 h3).2 with h4|h4
  ·exact h.sub _ h4
  ·exact .inr (F3 h.size h4)⟩,hR.inj,hR.tkfresh,fun i n sz t k h1 h2 h3=>⟨(hR.tkown i n sz t k h1 h2 h3).1,by
  rcases (hR.tkown i n sz t k h1 h2 h3).2 with h4|h4
  ·exact h.sub _ h4
  ·exact .inr (F3 h.size h4)⟩,hR.tkloc,hR.tkinj,fun k hk hs=>by
  obtain ⟨h1,h2⟩:=h.fr k hk hs;exact (hR.frame k (GH hk h.size) h1).trans h2,F3 h.size hR.size,hR.os.trans h.os,hR.tape.trans h.tape,hR.output.trans h.output,hR.glob,hR.gsz⟩
theorem Rel.ownSub {w0 w:World} {S0:SB} {E:Env} {L:List Blk} (hR:Rel w0 S0 E L w) (k:Nat) (hk:qD E L k):S0 k\/w0.heap.size<=k:=by
 rcases hk with ⟨i,b,c,h1,h2,h3,rfl⟩|⟨i,n,sz,t,c,h1,h2,h3,rfl⟩
 ·exact (hR.own i b c h1 h2 h3).2
 ·exact (hR.tkown i n sz t c h1 h2 h3).2
theorem Rel.bs {w0 w:World} {S0:SB} {E:Env} {L:List Blk} (hR:Rel w0 S0 E L w):Bs w0 S0 w ⟨qD E L,S0.B⟩ :=
 ⟨hR.size,fun k hk hs=>⟨fun ho=>by
  rcases hR.ownSub k ho with h1|h1
  ·exact hs h1
  ·omega,hR.frame k hk hs⟩,hR.ownSub,hR.os,hR.tape,hR.output,rfl⟩
theorem wy.bs {w0 w1:World} {S0 S1:SB} {ds:List Deferred} (h:wy w0 S0 ds) (b:Bs w0 S0 w1 S1):wy w1 S1 ds:=⟨by rw [b.low];exact F3 h.1 b.size,h.2.1,fun d hd=>by
 obtain ⟨D,h1,h0,h2,h3,h4⟩:=h.2.2 d hd;obtain ⟨h5,h6⟩:=b.fr D h2 h3;exact ⟨D,h1,by rw [b.low];exact h0,GH h2 b.size,h5,h6.trans h4⟩⟩
def AW (P:Program) (N:Nat) (own:Nat->Nat->Nat) (lc:aP) (Q:Exit->Tm->List Blk->Prop) (T:Tm) (L:List Blk):Prop :=
 ∀ c,aB P N own c=some lc.raw->∀ (r:Option Nat),(lc.hasRF=true->r=none)->∀ (w0:World) (S0:SB) (E:Env) (a:Act) (w:World),St w0 S0 N E T L a w ->
  c.wpIn (dt r) 0 P (fun e a' w'=>∃ w1 S1 E' T' L',Bs w0 S0 w1 S1/\E.le E'/\Q e T' L'/\St w1 S1 N E' T' L' a' w') a w
variable {own:Nat->Nat->Nat} {Q:Exit->Tm->List Blk->Prop} {T:Tm} {L:List Blk}
theorem AW.mono {lc:aP} {Q':Exit->Tm->List Blk->Prop} (h:AW P N own lc Q T L) (hq:∀ e T L,Q e T L->Q' e T L):AW P N own lc Q' T L:=fun c hc r hr w0 S0 E a w hst =>
 wpIn_mono (h c hc r hr w0 S0 E a w hst) fun e a' w' ⟨w1,S1,E',T',L',b,h1,h2,h3⟩=>⟨w1,S1,E',T',L',b,h1,hq _ _ _ h2,h3⟩
theorem jm {c:Code} {x:aP} (hc:aB P N own c=some x):match x with
  | .skip=>c=.skip
  | .exit id=>c=.exit id
  | .ret=>c=.ret
  | .label=>∃ l,c=.label l
  | .seq x y=>∃ c1 c2,c=.seq c1 c2/\aB P N own c1=some x/\aB P N own c2=some y
  | .cond o x y=>∃ c0 c1 c2,c=.cond c0 c1 c2/\aR c0=some o/\aB P N own c1=some x/\aB P N own c2=some y
  | .block id x=>∃ c1,c=.block id c1/\aB P N own c1=some x
  | .loop x=>∃ c1,c=.loop c1/\aB P N own c1=some x
  | .scope x=>∃ c1,c=.scope c1/\aB P N own c1=some x
  | .region ops=>∃ id os,c=.region id os false/\aY P N (own id) os (List.range os.size)=some ops
  | .dregion qk ts=>∃ id os los n,c=.region id os true/\aY P N (own id) os (List.range os.size)=some los/\mZ os los n=true/\n<=los.length/\P.follows .mixedOrders=true/\qk.map (·.1)=los.take n/\ts=los.drop n/\qQ (gw os.toList []) qk=true
  | _=>True:=by
 cases c with
 | skip=>cases hc;rfl
 | ret=>cases hc;rfl
 | exit id=>cases hc;rfl
 | label l=>cases hc;exact ⟨_,rfl⟩
 | goto l=>cases hc
 | refuse s=>cases hc
 | block id c=>simp only [aB,FY] at hc;obtain ⟨_,h1,rfl⟩:=hc;exact ⟨_,rfl,h1⟩
 | loop c=>simp only [aB,FY] at hc;obtain ⟨_,h1,rfl⟩:=hc;exact ⟨_,rfl,h1⟩
 | scope c=>simp only [aB,FY] at hc;obtain ⟨_,h1,rfl⟩:=hc;exact ⟨_,rfl,h1⟩
 | seq a b => simp only [aB] at hc; split at hc <;> try (cases hc; done)
              rename_i h1 h2;cases hc;exact ⟨_,_,rfl,h1,h2⟩
 | cond k a b => simp only [aB] at hc; split at hc <;> try (cases hc; done)
                 rename_i h1 h2 h3;cases hc;exact ⟨_,_,_,rfl,h1,h2,h3⟩
 | rangeFunc f ps a b =>
   simp only [aB] at hc
   repeat' split at hc
   all_goals cases hc
   trivial
 | region id ops draw =>
   cases draw
   ·simp only [aB,FY] at hc;obtain ⟨_,h1,rfl⟩:=hc;exact ⟨_,_,rfl,h1⟩
   ·simp only [aB,Hx] at hc;obtain ⟨los,h1,hc⟩:=hc;split at hc
    ·rename_i hb
     simp only [FG,decide_eq_true_eq] at hb;cases hc;exact ⟨_,_,los,_,rfl,h1,hb.1.1.1,hb.1.1.2,hb.1.2,vT _ _ _,rfl,hb.2⟩
    ·cases hc
theorem BI {c:Code} (hc:aB P N own c=some .skip):c=.skip:=jm hc
theorem BK {c:Code} {id:Nat} (hc:aB P N own c=some (.exit id)):c=.exit id:=jm hc
theorem C3 {c:Code} (hc:aB P N own c=some .ret):c=.ret:=jm hc
theorem C2 {c:Code} {x y:aP} (hc:aB P N own c=some (.seq x y)):∃ c1 c2,c=.seq c1 c2/\aB P N own c1=some x/\aB P N own c2=some y:=jm hc
theorem vV {c:Code} {o:Opd} {x y:aP} (hc:aB P N own c=some (.cond o x y)):∃ c0 c1 c2,c=.cond c0 c1 c2/\aR c0=some o/\aB P N own c1=some x/\aB P N own c2=some y:=jm hc
theorem yT {c:Code} {id:Nat} {x:aP} (hc:aB P N own c=some (.block id x)):∃ c1,c=.block id c1/\aB P N own c1=some x:=jm hc
theorem BJ {c:Code} {x:aP} (hc:aB P N own c=some (.loop x)):∃ c1,c=.loop c1/\aB P N own c1=some x:=jm hc
theorem oO {c:Code} {ops:List af} (hc:aB P N own c=some (.region ops)):∃ id os,c=.region id os false/\aY P N (own id) os (List.range os.size)=some ops:=jm hc
theorem rJ {c:Code} {qk:List (af×Kd)} {ts:List af} (hc:aB P N own c=some (.dregion qk ts)):∃ id os los n,c=.region id os true/\aY P N (own id) os (List.range os.size)=some los/\mZ os los n=true/\n<=los.length/\P.follows .mixedOrders=true/\qk.map (·.1)=los.take n/\ts=los.drop n/\qQ (gw os.toList []) qk=true:=jm hc
theorem eo {b:Frame} {a:Act} {k:List Item} {cs:List Frame} {w:World} {c:Code}:step P (lone (b.atR a (.code (.scope c)::k)) cs w)=.next (lone (b.atR a (.code c :: .inScope c::k)) cs w) :=
 step_lone_go (by simp [stepG,stepG.exec,Frame.atR])
theorem tN {b:Frame} {a:Act} {k:List Item} {cs:List Frame} {w:World} {c:Code}:step P (lone (b.atR a (.inScope c::k)) cs w)=.next (lone (b.atR a k) cs w) :=
 step_lone_go (by simp [stepG,stepG.exec,Frame.atR])
theorem wJ {F:Fence} {n:Nat} {a:Act} {w:World} {Q:Exit->Act->World->Prop} {c:Code} (h:c.wpIn F n P (Exit.noGoto Q) a w):(Code.scope c).wpIn F n P Q a w:=by
 intro b k cs hro hb hr;have h0:(lone (b.atR a (.code (.scope c)::k)) cs w).fenced P F:=fenced_calm hb hr rfl;obtain ⟨e,a₁,w₁,hq,harr⟩:=h b (.inScope c::k) cs hro hb hr;cases e with
 | normal=>exact ⟨.normal,a₁,w₁,hq,.head h0 eo (StepsIn.trans harr (.one (fenced_calm hb hr rfl) tN))⟩
 | exit id =>
   have hx:exitTo id (.inScope c::k)=exitTo id k:=by simp [exitTo]
   exact ⟨.exit id,a₁,w₁,hq,fun k' hk=>.head h0 eo (harr.1 k' (by rw [hx];exact hk)),
    fun hr' hk=>let ⟨k₁,h1,h2⟩:=harr.2 hr' (by rw [hx];exact hk);⟨k₁,h1,.head h0 eo h2⟩⟩
 | goto l=>exact hq.elim
 | ret=>exact ⟨_,a₁,w₁,hq,.of_steps (.one h0 eo) harr⟩
 | panic ch=>exact ⟨_,a₁,w₁,hq,.of_steps (.one h0 eo) harr⟩
 | outgrown=>exact ⟨_,a₁,w₁,hq,.of_steps (.one h0 eo) harr⟩
theorem fV (h:Q .normal T L):AW P N own .skip Q T L:=fun c hc r hr w0 S0 E a w hst=>by
 obtain rfl:=BI hc;exact wpIn_skip ⟨w0,S0,E,T,L,.refl _ _,.refl E,h,hst⟩
theorem iE {id:Nat} (h:Q (.exit id) T L):AW P N own (.exit id) Q T L:=fun c hc r hr w0 S0 E a w hst=>by
 obtain rfl:=BK hc;exact wpIn_exit ⟨w0,S0,E,T,L,.refl _ _,.refl E,h,hst⟩
theorem lK (h:Q .ret T L):AW P N own .ret Q T L:=fun c hc r hr w0 S0 E a w hst=>by
 obtain rfl:=C3 hc;exact wpIn_ret ⟨w0,S0,E,T,L,.refl _ _,.refl E,h,hst⟩
def yl (K:Tm->List Blk->Prop) (Q:Exit->Tm->List Blk->Prop):Exit->Tm->List Blk->Prop
 | .normal,T,L=>K T L
 | e,T,L=>Q e T L
theorem ku {x y:aP} (h:AW P N own x (yl (AW P N own y Q) Q) T L):AW P N own (.seq x y) Q T L:=fun c hc r hr w0 S0 E a w hst=>by
 obtain ⟨c1,c2,rfl,h1,h2⟩:=C2 hc;refine wpIn_seq (wpIn_mono (h c1 h1 r (fun e=>hr (by simp [aP.hasRF,e])) w0 S0 E a w hst) fun e a' w' ⟨w1,S1,E',T',L',b,g1,g2,g3⟩=>?_);cases e
 case normal=>exact wpIn_mono (g2 c2 h2 r (fun e=>hr (by simp [aP.hasRF,e])) w1 S1 E' a' w' g3) fun e a'' w'' ⟨w2,S2,E'',T'',L'',b2,k1,k2,k3⟩=>⟨w2,S2,E'',T'',L'',b.trans b2,g1.trans k1,k2,k3⟩
 all_goals exact ⟨w1,S1,E',T',L',b,g1,g2,g3⟩
theorem dV {x:Opd} {y z:aP} {b:Bool} (hx:evX T x=some (.bool b)) (ht:b=true->AW P N own y Q T L) (hf:b=false->AW P N own z Q T L):AW P N own (.cond x y z) Q T L:=fun c hc r hr w0 S0 E a w hst=>by
 obtain ⟨c0,c1,c2,rfl,h1,h2,h3⟩:=vV hc;have:=aa h1 hx hst.2.1;simp only [VR] at this;exact wpIn_cond_split this (fun e=>ht e c1 h2 r (fun e=>hr (by simp [aP.hasRF,e])) w0 S0 E a w hst) (fun e=>hf e c2 h3 r (fun e=>hr (by simp [aP.hasRF,e])) w0 S0 E a w hst)
def xC (id:Nat) (Q:Exit->Tm->List Blk->Prop):Exit->Tm->List Blk->Prop
 | .exit id',T,L=>if id'=id then Q .normal T L else Q (.exit id') T L
 | e,T,L=>Q e T L
theorem dA {x:Opd} {y z:aP} (hx:evX T x=some .anyb) (ht:AW P N own y Q T L) (hf:AW P N own z Q T L):AW P N own (.cond x y z) Q T L:=fun c hc r hr w0 S0 E a w hst=>by
 obtain ⟨c0,c1,c2,rfl,h0,h1,h2⟩:=vV hc;have hv:=aa h0 hx hst.2.1;simp only [VR] at hv;obtain ⟨b,hv⟩:=hv;exact wpIn_cond_split hv (fun _=>ht c1 h1 r (fun e=>hr (by simp [aP.hasRF,e])) w0 S0 E a w hst) (fun _=>hf c2 h2 r (fun e=>hr (by simp [aP.hasRF,e])) w0 S0 E a w hst)
theorem fe {id:Nat} {x:aP} (h:AW P N own x (xC id Q) T L):AW P N own (.block id x) Q T L:=fun c hc r hr w0 S0 E a w hst=>by
 obtain ⟨c1,rfl,h1⟩:=yT hc;refine wpIn_block (wpIn_mono (h c1 h1 r (fun e=>hr (by simp [aP.hasRF,e])) w0 S0 E a w hst) fun e a' w' ⟨w1,S1,E',T',L',b,g1,g2,g3⟩=>?_);cases e
 case exit i =>
  simp only [xC] at g2;simp only [Exit.inBlock];split at g2
  ·rename_i e;rw [if_pos e];exact ⟨w1,S1,E',T',L',b,g1,g2,g3⟩
  ·rename_i e;rw [if_neg e];exact ⟨w1,S1,E',T',L',b,g1,g2,g3⟩
 all_goals exact ⟨w1,S1,E',T',L',b,g1,g2,g3⟩
def vp (Q:Exit->Tm->List Blk->Prop):Exit->Tm->List Blk->Prop
 | .goto _,_,_=>False
 | e,T,L=>Q e T L
theorem Cp:vp Q .normal T L=Q .normal T L:=rfl
theorem Cq {i:Nat}:vp Q (.exit i) T L=Q (.exit i) T L:=rfl
theorem Co:vp Q .ret T L=Q .ret T L:=rfl
attribute [push_cast] Cp Cq Co
theorem eY {x:aP} (h:AW P N own x (vp Q) T L):AW P N own (.scope x) Q T L:=fun c hc r hr w0 S0 E a w hst=>by
 obtain ⟨c1,rfl,h1⟩:=jm hc;refine wJ (wpIn_mono (h c1 h1 r (fun e=>hr (by simp [aP.hasRF,e])) w0 S0 E a w hst) fun e a' w' ⟨w1,S1,E',T',L',b,g1,g2,g3⟩=>?_);cases e
 case goto l=>exact g2.elim
 all_goals exact ⟨w1,S1,E',T',L',b,g1,g2,g3⟩
theorem eZ (h:Q .normal T L):AW P N own .label Q T L:=fun c hc r hr w0 S0 E a w hst=>by
 obtain ⟨l,rfl⟩:=jm hc;exact wpIn_label ⟨w0,S0,E,T,L,.refl _ _,.refl E,h,hst⟩
theorem u7 (p:Nat->Prop):∀ n,p n->∃ m,p m/\∀ k,p k->m<=k:=by
 intro n
 induction n using Nat.strongRecOn with
 | _ n ih =>
   intro hn;by_cases h:∃ k,k<n/\p k
   ·obtain ⟨k,h1,h2⟩:=h;exact ih k h1 h2
   ·refine ⟨n,hn,fun k hk=>?_⟩;rcases FV k n with h1|h1
    ·exact absurd ⟨k,h1,hk⟩ h
    ·exact h1
theorem St.draw {E:Env} {a:Act} {w:World} {T:Tm} {L:List Blk} (h:St w0 S0 N E T L a w) (n:Nat):St w0 S0 N E T L a { w with drawn:=n }:=⟨h.1.draw n,h.2⟩
theorem tM {qk:List (af×Kd)} {ts:List af} (h:AG P (fO P (Q .normal) ts) qk [L] [] T):AW P N own (.dregion qk ts) Q T L:=fun c hc r hr w0 S0 E a w hst=>by
 obtain ⟨id,os,los,n,rfl,h1,h2,h3,h4,h5,rfl,h6⟩:=rJ hc;refine wpIn_region_any h4 ?_;have hn:qk.length=n:=by
  have:=congrArg List.length h5;simp at this;omega
 exact wt (w0:=w0) (S0:=S0) (L:=L) (T:=T) (Q:=fun e a' w'=>∃ w1 S1 E' T' L',Bs w0 S0 w1 S1/\E.le E'/\Q e T' L'/\St w1 S1 N E' T' L' a' w') (K:=Q .normal) (E0:=E) h1 h2 (by rw [h5,G5]) hn h6 h (fun E' T' L' a' w' e1 e2 e3=>⟨w0,S0,E',T',L',.refl _ _,e1,e2,e3⟩) a _ E (.refl E) (hst.draw _)
def DZ (mask:List Bool) (T:Tm):Bool:=(mask.zip T).all fun p=>p.1 || (aj (sel mask T) p.2.1).isNone
theorem sq:∀ {mask:List Bool} {T:Tm} {t:Nat} {v:AV},(∀ p∈mask.zip T,p.1=true\/p.2.1≠t)->aj (sel mask T) t=some v->aj T t=some v
 | [],T,t,v,_,h=>by rwa [xR] at h
 | true::m,[],t,v,_,h=>by simp [sel,aj] at h
 | false::m,[],t,v,_,h=>by simp [sel,aj] at h
 | true::m,x::T,t,v,hm,h=>by
   obtain ⟨k,u⟩:=x;rw [Dx] at h;simp only [aj] at h ⊢;split
   ·rename_i e;rw [if_pos e] at h;exact h
   ·rename_i e;rw [if_neg e] at h
    exact sq (fun p hp=>hm p (by simp only [HN,FX];exact .inr hp)) h
 | false::m,x::T,t,v,hm,h=>by
   obtain ⟨k,u⟩:=x;rw [Dy] at h;have hk:k≠t:=by
    rcases hm (false,(k,u)) (by simp) with h|h
    ·cases h
    ·exact h
   simp only [aj];rw [if_neg hk];exact sq (fun p hp=>hm p (by simp only [HN,FX];exact .inr hp)) h
theorem nq {mask:List Bool} {T:Tm} {t:Nat} {v:AV} (hb:DZ mask T=true) (h:aj (sel mask T) t=some v):aj T t=some v :=
 sq (fun p hp=>by
  have:=FH.1 hb p hp;rcases Bool.or_eq_true_iff.1 this with h1|h1
  ·exact .inl h1
  ·refine .inr fun e=>?_
   rw [e,h] at h1;cases h1) h
def tJ (mask:List Bool) (K:Tm->List Blk->Prop) (T:Tm) (L:List Blk):Prop:=DZ mask T=true/\K (sel mask T) L
theorem iy {mask:List Bool} {K:Tm->List Blk->Prop} {T:Tm} {L:List Blk} (h1:DZ mask T=true) (h2:K (sel mask T) L):tJ mask K T L:=⟨h1,h2⟩
def frB (ds:List Nat) (T:Tm):Bool:=ds.all fun d=>(aj T d).isNone
theorem iC {sops:List SOp} {mask:List Bool} (hf:(okS sops && frB (gds sops) T)=true) (h:SL P sops (tJ mask (Q .normal)) T L):AW P N own (.sreg sops mask) Q T L:=fun c hc r hr w0 S0 E a w hst=>by
 obtain ⟨id,os,rfl,h1⟩:=oO hc;rw [FG] at hf;refine wpIn_region (l9 sops hf.1 h1 hst (fun d hd=>?_) h fun E' T' L' a' w' h2 h3 h4=>⟨w0,S0,E',sel mask T',L',.refl _ _,h2,h3.2,h4.weak (fun t v hv=>nq h3.1 hv) rfl fun _ _ e=>.inr e⟩);have:=FH.1 hf.2 d hd;simpa using this
def El (mask:List Bool) (K:Tm->List Blk->Prop) (L:List Blk) (T:Tm):Prop:=tJ mask K T L
theorem Dq {mask:List Bool} {K:Tm->List Blk->Prop} {T:Tm} {L:List Blk}:El mask K L T=tJ mask K T L:=rfl
theorem eX {sops:List SOp} {kds:List Kd} {mask:List Bool} (hf:(okG none [] [] sops && frB (gds sops) T && decide (kds.length<=(SOp.flatL sops).length))=true) (h:GL P L sops (El mask (Q .normal) L) T):AW P N own (.sdreg sops kds mask) Q T L:=fun c hc r hr w0 S0 E a w hst=>by
 obtain ⟨id,os,los,n,rfl,h1,h2,h3,h4,h5,h6,_⟩:=rJ hc;simp only [FG,decide_eq_true_eq] at hf;obtain ⟨⟨f1,f2⟩,f3⟩:=hf;have hlos:los=SOp.flatL sops:=by
  have e1:((SOp.flatL sops).zip kds).map (·.1)=(SOp.flatL sops).take kds.length:=by
   have key:∀ (l:List af) (m:List Kd),(l.zip m).map (·.1)=l.take m.length:=by
    intro l
    induction l with
    | nil=>intro m;simp
    | cons o l ih=>intro m;cases m<;>simp [ih]
   exact key _ _
  rw [e1] at h5;rw [<- G5 n los,<- h5,<- h6,G5]
 have hlen:los.length=os.size:=by simpa using (lr h1).1
 refine wpIn_region_any h4 ?_;have hdraw:mZ os los los.length=true:=by
  simp only [mZ,FG] at h2 ⊢;refine ⟨h2.1,?_⟩;simp only [xy,FH,List.mem_range,Gm,decide_eq_true_eq];exact fun i hi=>.inl (by omega)
 have har:=zp (P:=P) (L:=L) f1 (T:=T) (fun d hd=>by
  have:=FH.1 f2 d hd;simpa using this) h
 refine wt (w0:=w0) (S0:=S0) (L:=L) (T:=T) (Q:=fun e a' w'=>∃ w1 S1 E' T' L',Bs w0 S0 w1 S1/\E.le E'/\Q e T' L'/\St w1 S1 N E' T' L' a' w') (E0:=E) (qk:=los.map fun o=>(o,.read 0 0)) (ts:=[]) h1 hdraw (by simp [FR,Function.comp_def]) (by simp) ?_ (K:=fun T1 L'=>L'=L/\∃ T',El mask (Q .normal) L T'/\∀ t v,aj T' t=some v->aj T1 t=some v)
  ?_ (fun E' T' L' a' w' e1 ⟨e2,T2,e3,e4⟩ e5=>?_) a _ E (.refl E) (hst.draw _)
 ·have hno:∀ (l:List af) (k:Nat),bC (l.map fun o=>(o,Kd.read 0 0)) k=[]:=by
   intro l
   induction l with
   | nil=>intro k;rfl
   | cons o l ih=>intro k;simp only [FQ,bC];exact ih _
  simp only [qQ,hno,Gu,List.range_zero,List.all_nil,GY,FH];intro p hp;obtain ⟨⟨o,kd⟩,i⟩:=p;have:kd=Kd.read 0 0:=by
   have:=List.fst_mem_of_mem_zipIdx hp;simp only [FF] at this;obtain ⟨o',_,e⟩:=this;cases e;rfl
  subst this;rfl
 ·rw [hlos];exact har
 ·subst e2;exact ⟨w0,S0,E',sel mask T2,_,.refl _ _,e1,e3.2,e5.weak (fun t v hv=>e4 t v (nq e3.1 hv)) rfl fun _ _ e=>.inr e⟩
theorem fa {qk:List (af×Kd)} {ts:List af} {mask:List Bool} (h:AG P (fO P (tJ mask (Q .normal)) ts) qk [L] [] T):AW P N own (.dregM qk ts mask) Q T L:=fun c hc r hr w0 S0 E a w hst=>by
 have:=tM (N:=N) (own:=own) (Q:=fun e T' L'=>e=.normal/\tJ mask (Q .normal) T' L') (L:=L) (T:=T) (qk:=qk) (ts:=ts) (P:=P) ?_ c hc r hr w0 S0 E a w hst
 ·refine wpIn_mono this fun e a' w' ⟨w1,S1,E',T',L',b,g1,⟨g2,g3⟩,g4⟩=>?_
  subst g2;exact ⟨w1,S1,E',sel mask T',L',b,g1,g3.2,g4.weak (fun t v hv=>nq g3.1 hv) rfl fun _ _ e=>.inr e⟩
 ·have e:(fun T' L'=>Exit.normal=Exit.normal/\tJ mask (Q .normal) T' L')=tJ mask (Q .normal):=by
   funext T' L';simp
  rw [e];exact h
theorem dU {ops:List af} (h:fO P (Q .normal) ops T L):AW P N own (.region ops) Q T L:=fun c hc r hr w0 S0 E a w hst=>by
 obtain ⟨id,os,rfl,h1⟩:=oO hc;exact wpIn_region (o3 _ _ h1 hst h fun E' T' L' a' w' h2 h3 h4=>⟨w0,S0,E',T',L',.refl _ _,h2,h3,h4⟩)
end
inductive xE where
 | tmp (t:Nat)
 | cell (agg:Bool) (sz t:Nat)
 deriving Inhabited
structure bJ where
 ntmps:Nat
 code:aP
 res:List xE
 deriving Inhabited
def bJ.raw (f:bJ):bJ:=⟨f.ntmps,f.code.raw,f.res⟩
def oM (P:Program):List ResultVar->Option (List xE)
 | []=>some []
 | .tmp t::l=>(oM P l).map (.tmp t::·)
 | .cell a t::l=>match jl P t,be P t,oM P l with
   | some g,some s,some m=>some (.cell g s a::m)
   | _,_,_=>none
def ct (P:Program) (own:Nat->Nat->Nat) (f:FuncId):Option bJ :=
 match P.funcs[f]? with
 | none=>none
 | some fn=>if (fn.name == "runtime.NumGoroutine")=true then none else match fn.body with
   | none=>none
   | some c=>match aB P fn.ntmps own c,oM P fn.results.toList with
     | some lc,some rs=>some ⟨fn.ntmps,lc,rs⟩
     | _,_=>none
def sw (T:Tm) (L:List Blk):List xE->Option (Prop×List AV)
 | []=>some (True,[])
 | .tmp t::l=>match aj T t,sw T L l with
   | some v,some (c,m)=>some (c,v::m)
   | _,_=>none
 | .cell g sz t::l=>match (aj T t).bind (row L),sw T L l with
   | some (r,off),some (c,m)=>if g then some (off+sz<=r.length/\c,.agg ((r.drop off).take sz)::m) else some (off<r.length/\c,r.getD off .undef::m)
   | _,_=>none
def vE:List AV->AV
 | [v]=>v
 | l=>.tup l
def au (i:Nat):List AV->Tm
 | []=>[]
 | a::l=>(i,a)::au (i+1) l
section
variable {P:Program} {w0:World} {S0:SB} {N:Nat} {E:Env} {L:List Blk} {w:World} {T:Tm} {a:Act}
theorem ph:∀ {rs:List ResultVar} {ls:List xE} {c:Prop} {m:List AV},oM P rs=some ls->sw T L ls=some (c,m)->c->Rel w0 S0 E L w->TR E T a ->
  ∃ vs,VRL E m vs/\(rs.mapM (m:=Sem) fun
   | .tmp t=>pure (a.tmps.getD t undef)
   | .cell x t=>do loadVar t (<- asAddr (a.tmps.getD x undef))).run P w=.ok vs w
 | [],ls,c,m,hl,he,hc,hR,hT=>by
   simp [oM] at hl;subst hl;simp [sw] at he;obtain ⟨_,rfl⟩:=he;exact ⟨[],by simp [VRL],by simp⟩
 | .tmp t::rs,ls,c,m,hl,he,hc,hR,hT=>by
   simp only [oM,FY] at hl;obtain ⟨ls',h1,rfl⟩:=hl;simp only [sw] at he;split at he<;>try cases he
   rename_i v c' m' h2 h3
   obtain ⟨vs,h4,h5⟩:=ph h1 h3 hc hR hT;exact ⟨_::vs,⟨_,_,rfl,hT _ _ h2,h4⟩,by simp only [He,FA,FU,FB,h5]⟩
 | .cell x t::rs,ls,c,m,hl,he,hc,hR,hT=>by
   simp only [oM] at hl;split at hl<;>try cases hl
   rename_i g s ls' hg hs h1
   simp only [sw] at he;split at he<;>try cases he
   rename_i r off c' m' h2 h3
   rcases h6:aj T x with _|u
   ·simp [h6] at h2
   ·simp only [h6,GK] at h2;have hv:=hT _ _ h6;obtain ⟨b,o,hp,hcells⟩:=qJ hR h2 hv;have hAddr:(asAddr (a.tmps.getD x undef)).run P w=.ok ⟨b,o+off,none⟩ w:=by rw [hp];rfl
    cases g
    ·simp only [FI,if_false,Fy,FD] at he;obtain ⟨rfl,rfl⟩:=he;obtain ⟨vs,h4,h5⟩:=ph h1 h3 hc.2 hR hT;obtain ⟨y,h7,h8⟩:=hcells off r[off] (FN hc.1);refine ⟨y::vs,⟨_,_,rfl,by rw [F4,FN hc.1];exact h8,h4⟩,?_⟩;have hload:(loadVar t ⟨b,o+off,none⟩).run P w=.ok y w:=by simp [loadVar,kX hg,h7]
     simp only [He,FA,hAddr,FB,hload,h5,FU]
    ·simp only [if_true,Fy,FD] at he;obtain ⟨rfl,rfl⟩:=he;obtain ⟨vs,h4,h5⟩:=ph h1 h3 hc.2 hR hT;have hlen:((r.drop off).take s).length=s:=by simp;omega
     obtain ⟨cs,h7,h8⟩:=rI (P:=P) (w:=w) (b:=b) (o:=o+off) (l:=(r.drop off).take s) hg (by rw [hlen];exact hs) (fun j a ha=>by
      have hj:j<s:=by have:=(Fx.1 ha).1;omega
      rw [Gk hj,Gq] at ha;have:=hcells _ _ ha
      rwa [<- Gi] at this)
     refine ⟨.agg ⟨cs⟩::vs,⟨_,_,rfl,⟨cs,rfl,h7⟩,h4⟩,?_⟩;simp only [He,FA,hAddr,FB,h8,h5,FU]
theorem zX {m:List AV} {vs:List Value} (h:VRL E m vs):VR E (vE m) (if h:vs.length=1 then vs[0] else .tuple ⟨vs⟩):=by
 have hl:=h.length;by_cases h1:vs.length=1
 ·rw [dif_pos h1]
  match m,vs,h,hl,h1 with
  | [x],[y],h,_,_ =>
    simp only [VRL,Hn] at h;obtain ⟨_,_,⟨rfl,rfl⟩,h2,_⟩:=h;exact h2
 ·rw [dif_neg h1];have:vE m=.tup m:=by
   match m,hl with
   | [],_=>rfl
   | [x],hl=>simp at hl;exact absurd hl h1
   | _::_::_,_=>rfl
  rw [this];exact ⟨vs,rfl,h⟩
theorem sR:∀ {args:List AV} {i t:Nat} {v:AV},aj (au i args) t=some v->i<=t/\args[t - i]?=some v
 | [],i,t,v,h=>by simp [au,aj] at h
 | x::args,i,t,v,h=>by
   simp only [au,aj] at h;split at h
   ·rename_i e;subst e;simp at h;subst h;simp
   ·rename_i e
    have:=sR h;refine ⟨by omega,?_⟩;rw [show t - i=(t - (i+1))+1 by omega];simpa using this.2
def Fin (L0:List Blk) (r:AV) (L:List Blk) (Q:AV->List Blk->Prop):Prop :=
 ∀ (w0:World) (S0:SB) (E0 E:Env) (w:World) (v:Value),E0.le E->(∀ i,L0.length<=i->E0.loc i=none/\E0.tok i=none)->(∀ k∈L0,k.refs (fun i=>decide (i<L0.length))=true) ->
  Rel w0 S0 E L w->VR E r v->∃ E' av L',E0.le E'/\Q av L'/\VR E' av v/\Rel w0 S0 E' L' w
mutual
theorem VR.refs {n:Nat} (hn:∀ i,n<=i->E.loc i=none) (ht:∀ i,n<=i->E.tok i=none):∀ (a:AV) (v:Value),VR E a v->a.refs (fun i=>decide (i<n))=true
 | .undef,_,_=>rfl
 | .bool _,_,_=>rfl
 | .anyb,_,_=>rfl
 | .int _ _,_,_=>rfl
 | .str _,_,_=>rfl
 | .nilptr,_,_=>rfl
 | .gptr _ _,_,_=>rfl
 | .ptr i off,v,r=>by
   simp only [VR] at r;obtain ⟨c,h,_⟩:=r;simp only [AV.refs,decide_eq_true_eq];rcases FV i n with h1|h1
   ·exact h1
   ·rw [hn i h1] at h;cases h
 | .iptr l off,v,r=>by
   simp only [VR] at r;obtain ⟨b,o,_,h⟩:=r;exact VRC.refs hn ht l b o h
 | .nilsl,_,_=>rfl
 | .sl l m cap,v,r=>by
   simp only [VR] at r;obtain ⟨p,c,_,_,_,h⟩:=r;rcases h with ⟨_,_,_,rfl⟩|⟨b,o,_,h⟩
   ·rfl
   ·exact VRC.refs hn ht l b o h
 | .gsl l m i sz,v,r=>by
   simp only [VR] at r;obtain ⟨p,c,_,_,_,h,t,h2,_⟩:=r;simp only [AV.refs,decide_eq_true_eq,FG];refine ⟨?_,?_⟩
   ·rcases FV i n with h1|h1
    ·exact h1
    ·rw [ht i h1] at h2;cases h2
   ·rcases h with ⟨_,_,_,rfl⟩|⟨b,o,_,h⟩
    ·rfl
    ·exact VRC.refs hn ht l b o h
 | .lsl i off len cap sz,v,r=>by
   simp only [VR] at r;obtain ⟨c,rc,d,h,_⟩:=r;simp only [AV.refs,decide_eq_true_eq];rcases FV i n with h1|h1
   ·exact h1
   ·rw [hn i h1] at h;cases h
 | .nilmap,_,_=>rfl
 | .lmap i,v,r=>by
   simp only [VR] at r;obtain ⟨c,h,_⟩:=r;simp only [AV.refs,decide_eq_true_eq];rcases FV i n with h1|h1
   ·exact h1
   ·rw [hn i h1] at h;cases h
 | .yld i,v,r=>by
   simp only [VR] at r;obtain ⟨c,h,_⟩:=r;simp only [AV.refs,decide_eq_true_eq];rcases FV i n with h1|h1
   ·exact h1
   ·rw [hn i h1] at h;cases h
 | .func f caps,v,r=>by
   simp only [VR] at r;obtain ⟨vs,_,h⟩:=r;exact VRL.refs hn ht caps vs h
 | .nilfunc,_,_=>rfl
 | .nilif,_,_=>rfl
 | .iface t x,v,r=>by
   simp only [VR] at r;obtain ⟨y,_,h⟩:=r;exact VR.refs hn ht x y h
 | .agg l,v,r=>by
   simp only [VR] at r;obtain ⟨vs,_,h⟩:=r;exact VRL.refs hn ht l vs h
 | .tup l,v,r=>by
   simp only [VR] at r;obtain ⟨vs,_,h⟩:=r;exact VRL.refs hn ht l vs h
theorem VRL.refs {n:Nat} (hn:∀ i,n<=i->E.loc i=none) (ht:∀ i,n<=i->E.tok i=none):∀ (l:List AV) (vs:List Value),VRL E l vs->AV.refsL (fun i=>decide (i<n)) l=true
 | [],_,_=>rfl
 | a::l,vs,r=>by
   simp only [VRL] at r;obtain ⟨x,xs,_,h1,h2⟩:=r;simp only [AV.refsL,FG];exact ⟨VR.refs hn ht a x h1,VRL.refs hn ht l xs h2⟩
theorem VRC.refs {n:Nat} (hn:∀ i,n<=i->E.loc i=none) (ht:∀ i,n<=i->E.tok i=none):∀ (l:List AV) (b o:Nat),VRC E l b o->AV.refsL (fun i=>decide (i<n)) l=true
 | [],_,_,_=>rfl
 | a::l,b,o,r=>by
   simp only [VRC] at r;obtain ⟨⟨x,_,h1⟩,h2⟩:=r;simp only [AV.refsL,FG];exact ⟨VR.refs hn ht a x h1,VRC.refs hn ht l b (o+1) h2⟩
end
theorem ak.refs {n:Nat} (hn:∀ i,n<=i->E.loc i=none) (ht:∀ i,n<=i->E.tok i=none):∀ {l:List (AV×AV×Nat)} {es:List MapEntry},ak E l es->(l.all fun e=>e.1.refs (fun i=>decide (i<n)) && e.2.1.refs (fun i=>decide (i<n)))=true
 | [],_,_=>rfl
 | (k,x,b)::l,es,r=>by
   simp only [ak] at r;obtain ⟨e,t,_,h1,h2,_,h3⟩:=r;simp only [Hd,FG];exact ⟨⟨VR.refs hn ht _ _ h1,VR.refs hn ht _ _ h2⟩,ak.refs hn ht h3⟩
theorem Rel.refs (h:Rel w0 S0 E L w):∀ k∈L,k.refs (fun i=>decide (i<L.length))=true:=fun k hk=>by
 obtain ⟨i,hi⟩:=G9.1 hk;have hb:=h.blk i k hi;cases k<;>simp only [aL] at hb
 ·rfl
 ·obtain ⟨c,cs,ty,fr,_,_,_,_,h5,_⟩:=hb;refine AV.refsL_iff.2 fun a ha=>?_
  obtain ⟨j,hj⟩:=G9.1 ha;obtain ⟨v,_,hv⟩:=h5 j a hj;exact VR.refs h.fresh h.tkfresh _ _ hv
 ·obtain ⟨c,rs,_,_,h3⟩:=hb;exact ak.refs h.fresh h.tkfresh h3
 ·rename_i m _ _ _
  obtain ⟨c,q,_,_,_,h4⟩:=hb;cases m with
  | none=>rfl
  | some j =>
    obtain ⟨d,g1,_⟩:=h4;simp only [Blk.refs,decide_eq_true_eq];rcases FV j L.length with h5|h5
    ·exact h5
    ·rw [h.fresh j h5] at g1;cases g1
 ·rfl
 ·obtain ⟨c,cs,ty,fr,_,_,_,_,h5,_⟩:=hb;refine AV.refsL_iff.2 fun a ha=>?_
  obtain ⟨j,hj⟩:=G9.1 ha;obtain ⟨v,_,hv⟩:=h5 j a hj;exact VR.refs h.fresh h.tkfresh _ _ hv
 ·rfl
 ·obtain ⟨c,D,tm,_,_,_,_,h5⟩:=hb;simp only [Blk.refs,FH];rintro ⟨t,u⟩ _;rcases hl:aj _ t with _|v
  ·rfl
  ·simpa using VR.refs h.fresh h.tkfresh _ _ (h5 t v hl)
def Ey (res:List xE) (L0:List Blk) (Q:AV->List Blk->Prop) (e:Exit) (T:Tm) (L':List Blk):Prop :=
 (e=.normal\/e=.ret)/\∃ c rs,sw T L' res=some (c,rs)/\c/\Fin L0 (vE rs) L' Q
theorem Rel.shut {w0 w:World} {S0:SB} {E:Env} {L:List Blk} (h:Rel w0 S0 E L w) {D:Nat} (hD:w0.heap.size<=D) (hno:¬ qD E L D) (ho:w.heap[D]?=some (.deferred (some []))):Rel w0 S0 E L (w.putObj D (.deferred none)):=by
 have same:∀ k,k≠D->(w.putObj D (.deferred none)).heap[k]?=w.heap[k]?:=fun k hk=>HB hk
 refine ⟨fun b o v hv=>?_,fun i k hk=>?_,h.fresh,h.own,h.inj,h.tkfresh,h.tkown,h.tkloc,h.tkinj,fun k hk hs=>?_,by simpa using h.size,h.os,h.tape,h.output,h.glob,fun p hp hne=>?_⟩
 ·have hv':=h.mem b o v hv;have hb:b≠D:=fun e=>by
   subst e;simp [World.cell?,ho] at hv'
  have:=same b hb;simp only [World.cell?] at hv' ⊢;rw [this];exact hv'
 ·cases hl:k.live
  ·refine aL.still hl rfl (fun t c n sz e ht hc=>?_) (h.blk i k hk);exact same _ fun e2=>hno (.inr ⟨i,n,sz,t,c,e ▸ hk,ht,hc,e2⟩)
  ·refine aL.worldL hl (fun c hc=>?_) (h.blk i k hk);exact same _ fun e2=>hno (.inl ⟨i,k,c,hk,hl,hc,e2⟩)
 ·rw [same k (by omega)];exact h.frame k hk hs
 ·obtain ⟨cs,ty,fr,h1,h2⟩:=h.gsz p hp hne;refine ⟨cs,ty,fr,?_,h2⟩;rw [same _ (fun e=>by rw [e,ho] at h1;cases h1)];exact h1
theorem t8 {fn:Func} {tmps:Array Value} {R:Ending->World->Prop} {wE:World} {SE:SB} {E:Env} {L:List Blk} (hR:∀ w,Rel wE SE E L w->∃ v,(results fn tmps).run P w=.ok v w/\R (.returned v) w) :
  ∀ (ds:List Deferred) (w:World),Rel wE SE E L w->ds.Nodup->(∀ d∈ds,∃ D,d=mkD D/\wE.heap.size<=D/\¬ qD E L D/\w.heap[D]?=some (.deferred (some [])))->LeavesInM (dt none) 0 P fn tmps R ds .returning w
 | [],w,h,_,_=>hR w h
 | d::ds,w,h,hn,hd=>by
   obtain ⟨D,rfl,h1,h2,h3⟩:=hd _ List.mem_cons_self;obtain ⟨n1,n2⟩:=Gv.1 hn;refine ⟨fun e=>(by cases e),.inl ⟨D,_,rfl,run_takeDeferred h3,t8 hR ds _ (h.shut h1 h2 h3) n2 fun d hd'=>?_⟩⟩;obtain ⟨D',rfl,k1,k2,k3⟩:=hd d (Ht _ hd');refine ⟨D',rfl,k1,k2,?_⟩;rw [HB fun e=>n1 (by subst e;exact hd')];exact k3
theorem ac {own:Nat->Nat->Nat} {f:FuncId} {lf:bJ} (h:ct P own f=some lf.raw) {args:List AV} {L:List Blk} {Q:AV->List Blk->Prop} (hlen:args.length<=lf.ntmps)
  (hb:AW P lf.ntmps own lf.code (Ey lf.res L Q) (au 0 args) L):ae P f args L Q:=by
 intro w0 S0 E w vs hR hv;obtain ⟨nt,code,rs0⟩:=lf;simp only [bJ.raw] at h hlen hb;unfold ct at h;split at h
 ·cases h
 rename_i fn hfn
 split at h
 ·cases h
 rename_i hname
 split at h
 ·cases h
 rename_i c hc
 split at h<;>try cases h
 rename_i lc rs hlc hrs
 refine .inl ⟨?_,?_⟩
 ·have:(fn.name == "runtime.NumGoroutine")=false:=by simpa using hname
  simp only [callFunc,FA,run_program,FB,hfn,this,hc,Option.isNone_some,FI,if_false,FU]
 ·refine (callsIn_wide (n:=0)).1 (callsIn_of_wp_marks (F:=dt none) hfn hc trivial ?_);have hvl:=hv.length;have hst:St w ⟨qD E L,w.heap.size⟩ fn.ntmps E (au 0 args) L { tmps:=(⟨vs⟩:Array Value)++Array.replicate (fn.ntmps - vs.length) undef,defers:=[] } w:=by
   refine ⟨hR.enter _,fun t x hx=>?_,by simp;omega,wy.nil (Fz _)⟩;obtain ⟨_,h1⟩:=sR hx;simp only [Ho] at h1;obtain ⟨y,h2,h3⟩:=hv.get h1;have hlt:t<vs.length:=(Fx.1 h2).1;rw [Ga,HQ (by simpa using hlt)];simpa [h2] using h3
  refine wpIn_mono (hb c hlc none (fun _=>rfl) w _ E _ w hst) fun e a' w' ⟨w1,S1,E',T',L',b,g1,⟨g2,c',rs',g3,g4,g5⟩,g6⟩=>?_
  have key:LeavesInM (dt none) 0 P fn a'.tmps (fun e w'=>∃ E' v av L',e=.returned v/\E.le E'/\Q av L'/\VR E' av v/\Rel w0 S0 E' L' w') a'.defers .returning w':=by
   refine t8 (wE:=w) (SE:=⟨qD E L,w.heap.size⟩) (E:=E') (L:=L') (fun w2 hR2=>?_) _ _ (b.rel g6.1) g6.2.2.2.2.1 fun d hd=>?_
   ·obtain ⟨us,k1,k2⟩:=ph hrs g3 g4 hR2 g6.2.1;obtain ⟨E'',av,L'',k3,k4,k5,k6⟩:=g5 w0 S0 E E' w2 _ g1 (fun i hi=>⟨hR.fresh i hi,hR.tkfresh i hi⟩) hR.refs (hR.back hR2) (zX k1);have hres:(results fn a'.tmps).run P w2=.ok (if h:us.length=1 then us[0] else .tuple ⟨us⟩) w2:=by
     unfold results;rw [Array.mapM_eq_mapM_toList];simp only [FA,Sem.run_map];refine (congrArg (fun r=>(Result.andThen r fun x w=>Result.ok x.toArray w).andThen _) k2).trans ?_;simp
    exact ⟨_,hres,E'',_,av,L'',rfl,k3,k4,k5,k6⟩
   ·obtain ⟨D,h1,h0,h2,h3,h4⟩:=g6.2.2.2.2.2 d hd;refine ⟨D,h1,by rw [b.low] at h0;exact h0,fun ho=>?_,?_⟩
    ·rcases g6.1.ownSub D ho with h5|h5
     ·exact h3 h5
     ·omega
    ·rw [g6.1.frame D h2 h3];exact h4
  rcases g2 with rfl|rfl<;>exact key
theorem aq {L0 L:List Blk} {r:AV} {Q:AV->List Blk->Prop} (h:Q r L):Fin L0 r L Q:=fun w0 S0 E0 E w v h0 _ _ hR hv=>⟨E,r,L,h0,h,hv,hR⟩
theorem zY {E0 E:Env} {n m:Nat} (h0:E0.le E) (hn:∀ i,n<=i->E0.loc i=none/\E0.tok i=none) (hm:n<=m) (g:Nat->Nat) (hg:∀ i,i<n->g i=i):E0.le (E.res m g):=by
 have lt:∀ i,(E0.loc i≠none\/E0.tok i≠none)->i<n:=fun i hi=>by
  rcases FV i n with h1|h1
  ·exact h1
  ·have:=hn i h1;simp [this.1,this.2] at hi
 refine ⟨fun b o x hx=>h0.mem b o x hx,fun i c hc=>?_,fun i t ht=>?_⟩
 ·have hi:=lt i (.inl (by simp [hc]));rw [Env.res_loc (by omega),hg i hi];exact h0.loc i c hc
 ·have hi:=lt i (.inr (by simp [ht]));rw [Env.res_tok (by omega),hg i hi];exact h0.tok i t ht
theorem Ct {L0 L1 L2:List Blk} {r:AV} {Q:AV->List Blk->Prop} (hl:L1.length=L0.length) (hk:(∀ k∈L0,k.refs (fun i=>decide (i<L0.length))=true)->∀ k∈L1,k.refs (fun i=>decide (i<L0.length))=true) (hr:r.refs (fun i=>decide (i<L0.length))=true)
  (h:Q r L1):Fin L0 r (L1++L2) Q:=fun w0 S0 E0 E w v h0 hn hw hR hv=>by
 have hcut:=hR.cut (by rw [hl];exact hk hw);refine ⟨E.res L1.length id,r,L1,zY h0 hn (by omega) id (fun _ _=>rfl),h,VR.cut (E:=E) (E':=E.res L1.length id) (p:=fun i=>decide (i<L0.length)) (fun _ _ _ x=>x) (fun i c hi hc=>?_) (fun i t hi ht=>?_) r v hr hv,hcut⟩
 ·rw [Env.res_loc (by have : i < L0.length := by simpa using hi
                      omega)];exact hc
 ·rw [Env.res_tok (by have : i < L0.length := by simpa using hi
                      omega)];exact ht
theorem cQ {L0 L:List Blk} {r:AV} {Q:AV->List Blk->Prop} (h:Fin L0 r.frz L Q):Fin L0 r L Q:=fun w0 S0 E0 E w v h0 hn hw hR hv =>
 h w0 S0 E0 E w v h0 hn hw hR (VR.frz _ _ hv)
theorem Cw {res:List xE} {L0 L':List Blk} {T:Tm} {Q:AV->List Blk->Prop} {c:Prop} {rs:List AV} (h:sw T L' res=some (c,rs)) (hc:c) (hf:Fin L0 (vE rs) L' Q):Ey res L0 Q .ret T L':=⟨.inr rfl,c,rs,h,hc,hf⟩
theorem ah {L0 L2:List Blk} {r:AV} {Q:AV->List Blk->Prop} (hr:r.refs (fun i=>decide (i<L0.length))=true) (h:Q r L0):Fin L0 r (L0++L2) Q :=
 Ct rfl (fun h=>h) hr h
mutual
def AV.snap (i:Nat) (l:List AV):AV->AV
 | .lsl j off n cap s=>if j=i then .sl ((l.drop off).take (n * s)) n cap else .lsl j off n cap s
 | .agg xs=>.agg (AV.snapL i l xs)
 | .tup xs=>.tup (AV.snapL i l xs)
 | a=>a
def AV.snapL (i:Nat) (l:List AV):List AV->List AV
 | []=>[]
 | a::xs=>AV.snap i l a::AV.snapL i l xs
end
mutual
theorem VR.snap {i:Nat} {l:List AV} {c:Loc} (hc:E.loc i=some c) (hl:VRC E l c.blk c.off):∀ (a:AV) (v:Value),VR E a v->VR E (a.snap i l) v
 | .lsl j off n cap s,v,r=>by
   simp only [AV.snap];split
   ·rename_i e;subst e
    simp only [VR] at r ⊢;obtain ⟨c',rc,d,h1,rfl,h2,h3,h4,h5⟩:=r;rw [hc] at h1;cases h1;refine ⟨_,rc,rfl,h3,h4,.inr ⟨c.blk,d,rfl,?_⟩⟩;rcases Gr n with hn|hn
    ·subst hn;simp [VRC]
    ·rw [h2 (by omega)];exact (hl.drop off).take _
   ·exact r
 | .agg xs,v,r=>by
   simp only [AV.snap,VR] at r ⊢;obtain ⟨vs,h1,h2⟩:=r;exact ⟨vs,h1,VRL.snap hc hl xs vs h2⟩
 | .tup xs,v,r=>by
   simp only [AV.snap,VR] at r ⊢;obtain ⟨vs,h1,h2⟩:=r;exact ⟨vs,h1,VRL.snap hc hl xs vs h2⟩
 | .undef,_,r=>r
 | .bool _,_,r=>r
 | .anyb,_,r=>r
 | .int _ _,_,r=>r
 | .str _,_,r=>r
 | .nilptr,_,r=>r
 | .gptr _ _,_,r=>r
 | .ptr _ _,_,r=>r
 | .iptr _ _,_,r=>r
 | .nilsl,_,r=>r
 | .sl _ _ _,_,r=>r
 | .gsl _ _ _ _,_,r=>r
 | .nilmap,_,r=>r
 | .lmap _,_,r=>r
 | .yld _,_,r=>r
 | .func _ _,_,r=>r
 | .nilfunc,_,r=>r
 | .nilif,_,r=>r
 | .iface _ _,_,r=>r
theorem VRL.snap {i:Nat} {l:List AV} {c:Loc} (hc:E.loc i=some c) (hl:VRC E l c.blk c.off):∀ (xs:List AV) (vs:List Value),VRL E xs vs->VRL E (AV.snapL i l xs) vs
 | [],_,r=>r
 | a::xs,vs,r=>by
   simp only [AV.snapL,VRL] at r ⊢;obtain ⟨x,ys,h1,h2,h3⟩:=r;exact ⟨x,ys,h1,VR.snap hc hl a x h2,VRL.snap hc hl xs ys h3⟩
end
theorem nn {L0 L:List Blk} {r:AV} {Q:AV->List Blk->Prop} {i:Nat} {l:List AV} (hi:L[i]?=some (.cells l)) (h:Fin L0 (r.snap i l) (L.set i .dead) Q):Fin L0 r L Q:=fun w0 S0 E0 E w v h0 hn hw hR hv=>by
 obtain ⟨c,cs,ty,fr,h1,_⟩:=hR.blk i _ hi;obtain ⟨E',g1,g2,g3,g4⟩:=hR.snap hi h1;exact h w0 S0 E0 E' w v (h0.trans g1) hn hw g2 (VR.snap (by rw [g4];exact h1) g3 _ _ (VR.mono g1 _ _ hv))
end
theorem u6 {α:Type} (L:List α) (x:α) (l:List α):(L++x::l)[L.length]?=some x:=by simp
theorem lx {α:Type} (L l:List α) (k:Nat):(L++l)[L.length+k]?=l[k]?:=by
 rw [FJ (by omega)];congr 1;omega
theorem CT {α:Type} (L:List α) (x y:α) (l:List α):(L++x::l).set L.length y=L++y::l:=by
 rw [Gb _ _ (by omega)];simp
theorem CS {α:Type} (L l:List α) (k:Nat) (y:α):(L++l).set (L.length+k) y=L++l.set k y:=by
 rw [Gb _ _ (by omega)];congr 2;omega
theorem Dp {α:Type} (L l m:List α):(L++l)++m=L++(l++m):=FO _ _ _
theorem aw {n:Int} (h0 : -9223372036854775808<=n) (h1:n<9223372036854775808):IntKind.i64.wrap n=n:=by
 simp only [IntKind.wrap,IntKind.bits,IntKind.signed];simp;omega
theorem Ft (j:Nat) (h:j<9223372036854775807):IntKind.i64.wrap ((j:Int)+1)=(j:Int)+1:=aw (by omega) (by omega)
theorem yt {n:Int} (h0:0<=n) (h1:n<256):IntKind.u8.wrap n=n:=by
 simp only [IntKind.wrap,IntKind.bits,IntKind.signed];simp;omega
theorem fb {P:Program} {N:Nat} {own:Nat->Nat->Nat} {Q:Exit->Tm->List Blk->Prop} {T:Tm} {L:List Blk} {x:Opd} {y z:aP} (hx:evX T x=some (.bool true)) (h:AW P N own y Q T L):AW P N own (.cond x y z) Q T L :=
 dV hx (fun _=>h) (fun e=>by cases e)
theorem fc {P:Program} {N:Nat} {own:Nat->Nat->Nat} {Q:Exit->Tm->List Blk->Prop} {T:Tm} {L:List Blk} {x:Opd} {y z:aP} (hx:evX T x=some (.bool false)) (h:AW P N own z Q T L):AW P N own (.cond x y z) Q T L :=
 dV hx (fun e=>by cases e) (fun _=>h)
def Fa (v:AV) (xs:List Int):Prop:=(v=.nilsl/\xs=[])\/∃ cap,v=.sl (xs.map (AV.int .i64)) xs.length cap
theorem yH {p:Nat->Bool} (xs:List Int):AV.refsL p (xs.map (AV.int .i64))=true:=AV.refsL_iff.2 fun a ha=>by
 obtain ⟨x,_,rfl⟩:=FF.1 ha;rfl
theorem Fa.refs {p:Nat->Bool} {v:AV} {xs:List Int} (h:Fa v xs):v.refs p=true:=by
 rcases h with ⟨rfl,_⟩|⟨cap,rfl⟩
 ·rfl
 ·exact yH xs
theorem dN {p:Prop} [Decidable p] {A B:Prop} (h1:p->A) (h2:¬ p->B):if p then A else B:=by
 by_cases h:p
 ·rw [if_pos h];exact h1 h
 ·rw [if_neg h];exact h2 h
theorem dy {p:Prop} [Decidable p] {A B:Prop} (h1:p->B) (h2:¬ p->A):if ¬ p then A else B:=by
 by_cases h:p
 ·rw [if_neg (fun e=>e h)];exact h1 h
 ·rw [if_pos h];exact h2 h
def DO (L0 L':List Blk) (Q:AV->List Blk->Prop):Option (Prop×List AV)->Prop
 | some (c,rs)=>c/\Fin L0 (vE rs) L' Q
 | none=>False
theorem xF {L0 L':List Blk} {Q:AV->List Blk->Prop} {c:Prop} {rs:List AV}:DO L0 L' Q (some (c,rs))=(c/\Fin L0 (vE rs) L' Q):=rfl
theorem dT {res:List xE} {L0 L':List Blk} {T:Tm} {Q:AV->List Blk->Prop} (h:DO L0 L' Q (sw T L' res)):Ey res L0 Q .ret T L':=by
 rcases hr:sw T L' res with _|⟨c,rs⟩
 ·rw [hr] at h;exact h.elim
 ·rw [hr] at h;exact Cw hr h.1 h.2
def Hid (p:Prop):Prop:=p
theorem hid {p:Prop} (h:p):Hid p:=h
theorem Hid.out {p:Prop} (h:Hid p):p:=h
theorem Kto {K:AV->List Blk->Prop} {L:List Blk} {a b:AV} (h:K a L) (e:a=b):K b L:=e ▸ h
def tW (T' T:Tm):Prop:=∀ p∈T',∃ v,aj T p.1=some v/\(p.2=v\/p.2=v.frz)
theorem TR.sub {E:Env} {T T':Tm} {a:Act} (r:TR E T a) (h:tW T' T):TR E T' a:=fun t v hv=>by
 obtain ⟨u,h1,h2⟩:=h _ (qo hv);have:=r t u h1;rcases h2 with h2|h2
 ·simp only at h2;subst h2;exact this
 ·simp only at h2;subst h2;exact VR.frz _ _ this
theorem wv {T:Tm}:tW [] T:=fun p h=>by cases h
theorem nA {T T':Tm} {t:Nat} {v u:AV} (h:aj T t=some u) (e:v=u) (h':tW T' T):tW ((t,v)::T') T:=fun p hp=>by
 rcases FX.1 hp with rfl|hp
 ·exact ⟨u,h,.inl e⟩
 ·exact h' p hp
theorem tI {T T':Tm} {t:Nat} {v u:AV} (h:aj T t=some u) (e:v=u.frz) (h':tW T' T):tW ((t,v)::T') T:=fun p hp=>by
 rcases FX.1 hp with rfl|hp
 ·exact ⟨u,h,.inr e⟩
 ·exact h' p hp
def Cut (B:Nat) (T':Tm) (L':List Blk) (T:Tm) (L:List Blk):Prop :=
 tW T' T/\∃ X,L=L'++X/\B<=L'.length/\(X=[]\/((∀ p∈T',p.2.refs (fun i=>decide (i<L'.length))=true)/\∀ k∈L',k.refs (fun i=>decide (i<L'.length))=true))
theorem wD {B:Nat} {T' T:Tm} {L:List Blk} (h:tW T' T) (hB:B<=L.length):Cut B T' L T L:=⟨h,[],by simp,hB,.inl rfl⟩
theorem CutS {B:Nat} {T' T:Tm} {L:List Blk} (a:tW T' T:=by repeat' first|exact wv|refine nA rfl rfl ?_|refine tI rfl rfl ?_) (b:B<=L.length):Cut B T' L T L:=wD a b
theorem CutL {B:Nat} {T' T:Tm} {L:List Blk} (a:tW T' T:=by repeat' first|exact wv|refine nA rfl rfl ?_|refine tI rfl rfl ?_|refine nA rfl (congrArg (AV.int _) (by omega)) ?_|refine nA rfl (by first|(simp_all;done)|(simp_all;omega)|(simp_all;intros;omega)) ?_) (b:B<=L.length):Cut B T' L T L:=wD a b
abbrev Fv:=@ae Try.prog
abbrev Fw:=AV->List Blk->Prop
abbrev Ctr (P:Program) (f:FuncId) (A:List AV) (v:AV):Prop:=∀ {L:List Blk} {K:AV->List Blk->Prop},K v L->ae P f A L K
abbrev o0 (x:LOp):SOp:=.op ⟨none,x,none⟩
abbrev o1 (n:Nat) (x:LOp):SOp:=.op ⟨some n,x,none⟩
abbrev og (n t:Nat) (b:Bool) (x:LOp):SOp:=.op ⟨some n,x,some (t,b)⟩
abbrev od (n:Nat) (x:LOp) (k:Kd):af×Kd:=(⟨some n,x,none⟩,k)
abbrev tm (t:Nat):Opd:=.tmp t
abbrev iv (n:Int):Opd:=.av (.int .i64 n)
attribute [push_cast] o0 o1 og od tm iv
abbrev Aa (a b:Nat):SOp:=.op ⟨some a,(.mv (.tmp b)),none⟩
abbrev Ab (a b c:Nat):SOp:=.op ⟨some a,(.load false b (.tmp c)),none⟩
abbrev Ac (a b c:Nat):SOp:=.op ⟨some a,(.faddr b (.tmp c)),none⟩
abbrev Ad (a:Nat) (b:Int):SOp:=.op ⟨some a,(.mv (.av (.int .i64 b))),none⟩
abbrev Ae (a b:Nat):SOp:=.op ⟨some a,(.nilchk (.tmp b)),none⟩
abbrev Af (a b:Nat):SOp:=.op ⟨some a,(.len false (.tmp b)),none⟩
abbrev Ag (a b c:Nat):SOp:=.op ⟨some a,(.mv (.tmp c)),some (b,true)⟩
abbrev Ah (a b c:Nat):SOp:=.op ⟨some a,(.call b [(.tmp c)]),none⟩
abbrev Ai (a:Nat):SOp:=.op ⟨some a,(.mv (.av (.sl [] 0 (some 0)))),none⟩
abbrev Aj (a b c d e:Nat):af×Kd:=(⟨some a,(.load false b (.tmp c)),none⟩,(.read d e))
abbrev Ak (a b c:Nat):SOp:=.op ⟨some a,(.mv (.tmp c)),some (b,false)⟩
abbrev Al (a b c:Nat):af×Kd:=(⟨some a,(.faddr b (.tmp c)),none⟩,.pure)
abbrev Am (a b:Nat) (c:Int):SOp:=.op ⟨some a,(.bin .add (.tmp b) (.av (.int .i64 c))),none⟩
abbrev An (a b c d:Nat):SOp:=.op ⟨some a,(.iaddr b (.tmp c) (.tmp d)),none⟩
abbrev Ao (a b:Nat):af×Kd:=(⟨some a,(.mv (.tmp b)),none⟩,.pure)
abbrev Ap (a b c:Nat):SOp:=.op ⟨some a,(.bin .lss (.tmp b) (.tmp c)),none⟩
abbrev Aq (a b:Nat) (c:Int):SOp:=.op ⟨some a,(.bin .eql (.tmp b) (.av (.int .i64 c))),none⟩
abbrev Ar (a b:Nat):SOp:=.op ⟨some a,(.extract (.tmp b) 0),none⟩
abbrev As (a:Nat):SOp:=.op ⟨some a,(.mv (.av (.bool false))),none⟩
abbrev Au (a b:Nat):SOp:=.op ⟨some a,(.extract (.tmp b) 1),none⟩
abbrev Aw (a b c d:Nat):SOp:=.op ⟨some a,(.call b [(.tmp c),(.tmp d)]),none⟩
abbrev Ax (a b:Nat):SOp:=.op ⟨some a,(.box (.tmp b)),none⟩
abbrev Ay (a b c d:Nat):af×Kd:=(⟨some a,(.nilchk (.tmp b)),none⟩,(.read c d))
abbrev Az (a b c:Nat):SOp:=.op ⟨none,(.store a (.tmp b) (.tmp c)),none⟩
abbrev A0 (a b c:Nat) (d:Int):SOp:=.op ⟨some a,(.bin .eql (.tmp c) (.av (.int .i64 d))),some (b,true)⟩
abbrev A1 (a b:Nat) (c:Int):SOp:=.op ⟨some a,(.bin .neq (.tmp b) (.av (.int .i64 c))),none⟩
abbrev A2 (a b c:Nat):SOp:=.op ⟨some a,(.mget .int false .nilptr (.tmp b) (.tmp c)),none⟩
abbrev A3 (a:Nat):SOp:=.op ⟨some a,(.mv (.av (.str []))),none⟩
abbrev A4 (a b:Nat):SOp:=.op ⟨some a,(.eqk false .ptr (.tmp b) (.av .nilptr)),none⟩
abbrev A5 (a b c:Nat):SOp:=.op ⟨some a,(.len false (.tmp c)),some (b,true)⟩
abbrev A6 (a b:Nat) (c:Int):SOp:=.op ⟨some a,(.bin .gtr (.tmp b) (.av (.int .i64 c))),none⟩
abbrev A7 (a b c:Nat):SOp:=.op ⟨some a,(.load true b (.tmp c)),none⟩
abbrev A8 (a b c d e:Nat):af×Kd:=(⟨some a,(.call b [(.tmp c)]),none⟩,(.read d e))
abbrev A9 (a b c d:Nat):SOp:=.op ⟨some a,(.load false c (.tmp d)),some (b,false)⟩
abbrev AA (a b c d:Nat):SOp:=.op ⟨some a,(.bin .add (.tmp c) (.tmp d)),some (b,true)⟩
abbrev AB (a b c d:Nat):SOp:=.op ⟨some a,(.load false c (.tmp d)),some (b,true)⟩
abbrev AC (a b c d:Nat) (e:Int):SOp:=.op ⟨some a,(.call b [(.tmp c),(.tmp d),(.av (.int .i64 e))]),none⟩
abbrev AD (a b:Nat):SOp:=.op ⟨some a,(.un .not (.tmp b)),none⟩
abbrev AE (a b c:Nat):SOp:=.op ⟨some a,(.call b [(.tmp c),(.av (.sl [] 0 (some 0)))]),none⟩
abbrev AF (a b c d:Nat):SOp:=.op ⟨some a,(.faddr c (.tmp d)),some (b,false)⟩
abbrev AH (a b:Nat) (c:Int):SOp:=.op ⟨some a,(.bin .geq (.tmp b) (.av (.int .i64 c))),none⟩
abbrev AI (a b c d e:Nat):SOp:=.op ⟨some a,(.call c [(.tmp d),(.tmp e)]),some (b,true)⟩
abbrev AJ (a b:Nat) (c:Int):SOp:=.op ⟨some a,(.bin .sub (.tmp b) (.av (.int .i64 c))),none⟩
abbrev AK (a:Nat):SOp:=.op ⟨some a,(.mv (.av .nilptr)),none⟩
abbrev AL (a b c:Nat):SOp:=.op ⟨some a,(.eqk false .ptr (.tmp c) (.av .nilptr)),some (b,false)⟩
abbrev AM (a b c:Nat):SOp:=.op ⟨some a,(.len false (.tmp c)),some (b,false)⟩
abbrev AN (a b c d:Nat):SOp:=.op ⟨some a,(.mget .int false .nilptr (.tmp c) (.tmp d)),some (b,false)⟩
abbrev AO (a b:Nat):SOp:=.op ⟨some a,(.bslice false 1 1 [(.str [])] [(0,(1,(.tmp b)))]),none⟩
abbrev AP (a b c:Nat):SOp:=.op ⟨some a,(.app 2 1 16 [(.str [])] (.tmp b) (.tmp c)),none⟩
abbrev AS (a b:Nat) (c:Int):SOp:=.op ⟨some a,(.slV 1 (.tmp b) (some (.av (.int .i64 c))) none none),none⟩
abbrev AT (a b c:Nat):SOp:=.op ⟨some a,(.bin .eql (.tmp c) (.av (.int .u8 32))),some (b,true)⟩
abbrev AU (a b c:Nat):SOp:=.op ⟨some a,(.app 1 1 1 [(.int .u8 0)] (.tmp b) (.tmp c)),none⟩
abbrev AX (a:Nat):SOp:=.op ⟨some a,(.alloc [(.str []),(.str [])]),none⟩
abbrev LSO:=List SOp
abbrev AY:List Bool:=[true,false]
abbrev AZ:List Bool:=[true,false,false]
abbrev Ba:List Bool:=[true,false,false,false]
abbrev Bb:List Bool:=[true,false,false,false,false,false,false]
abbrev Bc:List Bool:=[true,false,false,false,false]
abbrev Bd:List Bool:=[true,false,false,false,false,false]
abbrev Be:List Bool:=[true,false,false,false,false,false,false,false]
abbrev Bf:List Bool:=[true,false,false,false,false,false,false,false,false,false]
abbrev Bg:List Bool:=[true,true,false]
abbrev Bh:List Bool:=[false,false,false,false]
abbrev Bi:List Bool:=[true,true,false,false,false]
abbrev Bj:List Bool:=[true,false,false,false,false,false,false,false,false,false,false]
abbrev Bk:List Bool:=[true,false,false,false,false,false,false,false,false]
abbrev Bl:List Bool:=[true,true,false,false,false,false,false]
abbrev Bm:List Bool:=[false,false,false,false,false,false,false,false]
abbrev Bn:List Bool:=[false,false,false,false,false,false,false,false,false,false,false,false,false,false]
abbrev Bo:List Bool:=[false,true,false,false,false,false,false,false]
abbrev Bp:List Bool:=[false,false,false,false,false,false,false,false,false,false]
abbrev Bq:List Bool:=[true,false,false,false,false,false,false,false,false,false,false,false]
attribute [push_cast] Aa Ab Ac Ad Ae Af Ag Ah Ai Aj Ak Al Am An Ao Ap Aq Ar As Au Aw Ax Ay Az A0 A1 A2 A3 A4 A5 A6 A7 A8 A9 AA AB AC AD AE AF AH AI AJ AK AL AM AN AO AP AS AT AU AX AY AZ Ba Bb Bc Bd Be Bf Bg Bh Bi Bj Bk Bl Bm Bn Bo Bp Bq
section
variable {P:Program} {w0:World} {S0:SB} {N:Nat} {own:Nat->Nat->Nat} {Q:Exit->Tm->List Blk->Prop} {T:Tm} {L:List Blk}
theorem Rel.none_of {E:Env} {w:World} (h:Rel w0 S0 E L w):∀ i,L.length<=i->E.loc i=none/\E.tok i=none:=fun i hi=>⟨h.fresh i hi,h.tkfresh i hi⟩
theorem St.cut {E0 E:Env} {a:Act} {w:World} {T':Tm} {L':List Blk} {B:Nat} (h0:E0.le E) (hB:∀ i,B<=i->E0.loc i=none/\E0.tok i=none) (h:St w0 S0 N E T L a w) (hc:Cut B T' L' T L):∃ E',E0.le E'/\St w0 S0 N E' T' L' a w:=by
 obtain ⟨hs,X,rfl,hlen,hx⟩:=hc;rcases hx with rfl|⟨h1,h2⟩
 ·exact ⟨E,h0,by simpa using h.1,h.2.1.sub hs,h.2.2⟩
 ·refine ⟨E.res L'.length id,zY h0 hB hlen id (fun _ _=>rfl),h.1.cut h2,fun t v hv=>?_,h.2.2⟩;have:=(h.2.1.sub hs) t v hv;refine VR.cut (E:=E) (E':=E.res L'.length id) (p:=fun i=>decide (i<L'.length)) (fun _ _ _ x=>x) (fun i c hi hc=>?_) (fun i c hi hc=>?_) v _ (h1 _ (qo hv)) this
  ·rw [Env.res_loc (by simpa using hi)];exact hc
  ·rw [Env.res_tok (by simpa using hi)];exact hc
def Nxt (B n:Nat) (I:Nat->Tm->List Blk->Prop) (T1:Tm) (L1:List Blk):Prop:=∃ m T2 L2,m<n/\Cut B T2 L2 T1 L1/\I m T2 L2
theorem aJ {B n:Nat} {I:Nat->Tm->List Blk->Prop} {T1:Tm} {L1:List Blk} (m:Nat) (T2:Tm) (L2:List Blk) (h1:m<n) (h2:Cut B T2 L2 T1 L1) (h3:I m T2 L2):Nxt B n I T1 L1:=⟨m,T2,L2,h1,h2,h3⟩
theorem aM {x:aP} (I:Nat->Tm->List Blk->Prop) {n0:Nat} {T0:Tm} {L0:List Blk} (hc0:Cut L.length T0 L0 T L) (h0:I n0 T0 L0)
  (round:∀ n T' L',I n T' L'->AW P N own x (yl (Nxt L.length n I) Q) T' L'):AW P N own (.loop x) Q T L:=fun c hc r hr w0 S0 E a w hst=>by
 classical
 obtain ⟨c1,rfl,h1⟩:=BJ hc;have hB:=hst.1.none_of
 let J:Act->World->Nat->Prop:=fun a w n=>∃ w1 S1 E' T' L',Bs w0 S0 w1 S1/\E.le E'/\I n T' L'/\St w1 S1 N E' T' L' a w
 have least:∀ a w,∃ m,(∃ n,J a w n)->J a w m/\∀ k,J a w k->m<=k:=fun a w=>by
  by_cases h:∃ n,J a w n
  ·obtain ⟨n,hn⟩:=h;obtain ⟨m,h1,h2⟩:=u7 (J a w) n hn;exact ⟨m,fun _=>⟨h1,h2⟩⟩
  ·exact ⟨0,fun h'=>absurd h' h⟩
 let μ:Act->World->Nat:=fun a w=>Classical.choose (least a w)
 have hμ:∀ a w,(∃ n,J a w n)->J a w (μ a w)/\∀ k,J a w k->μ a w<=k:=fun a w=>Classical.choose_spec (least a w)
 obtain ⟨E1,e1,e2⟩:=hst.cut (.refl E) hB hc0;refine wpIn_loop (fun a w=>∃ n,J a w n) μ ⟨n0,w0,S0,E1,_,_,.refl _ _,e1,h0,e2⟩ fun a w hJ=>?_
 obtain ⟨⟨w1,S1,E',T',L',b,g1,g2,g3⟩,_⟩:=hμ a w hJ;refine wpIn_mono (round _ T' L' g2 c1 h1 r (fun e=>hr (by simp [aP.hasRF,e])) w1 S1 E' a w g3) fun e a' w' ⟨w3,S3,E'',T'',L'',b2,k1,k2,k3⟩=>?_
 cases e
 ·obtain ⟨m,T2,L2,hm,hcut,hI⟩:=k2;obtain ⟨E3,q1,q2⟩:=k3.cut (g1.trans k1) hB hcut;have hJ':J a' w' m:=⟨w3,S3,E3,T2,L2,b.trans b2,q1,hI,q2⟩;exact ⟨⟨m,hJ'⟩,Nat.lt_of_le_of_lt ((hμ a' w' ⟨m,hJ'⟩).2 m hJ') hm⟩
 all_goals exact ⟨w3,S3,E'',T'',L'',b.trans b2,g1.trans k1,k2,k3⟩
theorem TR.cons {E:Env} {a:Act} {t:Nat} {v:AV} (r:TR E T a) (hv:VR E v (a.tmps.getD t undef)):TR E ((t,v)::T) a:=fun t' v' h=>by
 simp only [aj] at h;split at h
 ·rename_i e;subst e;simp at h;subst h;exact hv
 ·exact r t' v' h
theorem iD {lc:aP} (t sz:Nat) {l:List AV} {n:Nat} (h1:aj T t=some (.sl l n (some n))) (h2:l.length=n * sz) (h:AW P N own lc Q ((t,.gsl l n L.length sz)::T) (L++[.spare n sz])):AW P N own lc Q T L:=fun c hl r hr w0 S0 E a w hst=>by
 obtain ⟨r1,r2⟩:=hst.1.addtok (n:=n) (sz:=sz) (lc:=none) uG;have hv:=hst.2.1 t _ h1;have hT:=hst.2.1.mono r1;refine wpIn_mono (h c hl r hr w0 S0 _ a w ⟨r2,hT.cons ?_,hst.2.2⟩) fun e a' w' ⟨w1,S1,E',T1,L1,b,k1,k2,k3⟩=>⟨w1,S1,E',T1,L1,b,r1.trans k1,k2,k3⟩
 have hv':=VR.mono r1 _ _ hv;generalize a.tmps.getD t undef=v at hv';simp only [VR] at hv' ⊢;obtain ⟨p,c',q1,q2,q3,q4⟩:=hv';exact ⟨p,c',q1,q2,h2,q4,⟨n,sz,none⟩,by simp,Fz _,fun _=>⟨rfl,fun _=>q3 n rfl,by simp⟩⟩
theorem gp {x:Opd} {y z:aP} {p:Prop} [Decidable p] (hx:evX T x=some (.bool (decide p))) (ht:p->AW P N own y Q T L) (hf:¬ p->AW P N own z Q T L):AW P N own (.cond x y z) Q T L :=
 dV hx (fun e=>ht (of_decide_eq_true e)) (fun e=>hf (of_decide_eq_false e))
theorem gm {x:Opd} {y z:aP} {p:Prop} [Decidable p] (hx:evX T x=some (.bool (!decide p))) (ht:¬ p->AW P N own y Q T L) (hf:p->AW P N own z Q T L):AW P N own (.cond x y z) Q T L :=
 dV hx (fun e=>ht (of_decide_eq_false (by simpa using e))) (fun e=>hf (of_decide_eq_true (by simpa using e)))
end
section
variable {P:Program} {K:Tm->Prop} {L L1:List Blk} {Ls:List (List Blk)} {p:AV} {d:Option Nat} {op:LOp} {rest:List af} {T:Tm} {t:Nat} {b:Bool} {al:Option Nat} {n:Nat}
def Cm (L:List Blk) (k:AV->Prop):Option (Prop×AV×List Blk)->Prop
 | some (c,av,L')=>c/\L'=L/\k av
 | none=>False
theorem zw {k:AV->Prop} {c:Prop} {av:AV} {L':List Blk}:Cm L k (some (c,av,L'))=(c/\L'=L/\k av):=rfl
def xA (L L1:List Blk) (k:AV->Prop):Option (Prop×AV×List Blk)->Option (Prop×AV×List Blk)->Prop
 | some (c,av,L'),some (c2,av2,L2)=>c/\L'=L/\c2/\av2=av/\L2=L1/\k av
 | _,_=>False
theorem zu {k:AV->Prop} {c c2:Prop} {av av2:AV} {L' L2:List Blk}:xA L L1 k (some (c,av,L')) (some (c2,av2,L2))=(c/\L'=L/\c2/\av2=av/\L2=L1/\k av):=rfl
def Ex (P:Program) (f:FuncId) (L:List Blk) (k:AV->Prop):Option (List AV)->Prop
 | some args=>∃ v,ae P f args L (fun av L'=>av=v/\L'=L)/\k v
 | none=>False
def Ds (P:Program) (f:FuncId) (L L1:List Blk) (k:AV->Prop):Option (List AV)->Prop
 | some args=>∃ v,ae P f args L (fun av L'=>av=v/\L'=L)/\ae P f args L1 (fun av L'=>av=v/\L'=L1)/\k v
 | none=>False
def wz (b:Bool) (y n:Prop):Option AV->Prop
 | some (.bool x)=>if x=b then y else n
 | some (.tup [])=>n
 | _=>False
theorem zy {b x:Bool} {y n:Prop}:wz b y n (some (.bool x))=if x=b then y else n:=rfl
theorem Cr {b:Bool} {y n:Prop}:wz b y n (some (.tup []))=n:=rfl
def DN (P:Program) (f:FuncId) (args:List AV) (L L1:List Blk) (k:AV->Prop):Prop:=∃ v,ae P f args L (fun av L'=>av=v/\L'=L)/\ae P f args L1 (fun av L'=>av=v/\L'=L1)/\k v
theorem ee {f:FuncId} {args:List AV} {k:AV->Prop} {v:AV} (h:ae P f args L (fun av L'=>av=v/\L'=L)) (h1:ae P f args L1 (fun av L'=>av=v/\L'=L1)) (hk:k v):DN P f args L L1 k:=⟨v,h,h1,hk⟩
theorem Ew {f:FuncId} {k:AV->Prop} {args:List AV}:Ex P f L k (some args)=Cv P f args L k:=rfl
theorem Ev {f:FuncId} {k:AV->Prop} {args:List AV}:Ds P f L L1 k (some args)=DN P f args L L1 k:=rfl
theorem Cx {o:af} {v:AV} (h:o.op.isCall=false):AQv P o T L v=(match ab T L o.op with|some (c,av,L')=>c/\av=v/\L'=L|none=>False):=by
 obtain ⟨d,op,g⟩:=o;cases op<;>simp only [LOp.isCall,GE] at h<;>rfl
def tX (P:Program) (L:List Blk) (k:AV->Prop) (T:Tm) (op:LOp):Prop :=
 match op with
 | .call f xs=>Ex P f L k (dZ T xs)
 | .callv f xs=>∃ v,AQv P ⟨none,.callv f xs,none⟩ T L v/\k v
 | lo=>Cm L k (ab T L lo)
def Cj (P:Program) (L L1:List Blk) (k:AV->Prop) (T:Tm) (op:LOp):Prop :=
 match op with
 | .call f xs=>Ds P f L L1 k (dZ T xs)
 | .callv f xs=>∃ v,(AQv P ⟨none,.callv f xs,none⟩ T L v/\AQv P ⟨none,.callv f xs,none⟩ T L1 v)/\k v
 | lo=>xA L L1 k (ab T L lo) (ab T L1 lo)
def AGK (P:Program) (K:Tm->List Blk->Prop) (Ls:List (List Blk)) (H:List gl) (rest:List (af×Kd)) (d:Option Nat) (T:Tm) (av:AV):Prop:=AG P K rest Ls H (bc d av T)
def AGR (P:Program) (K:Tm->List Blk->Prop) (Ls:List (List Blk)) (H:List gl) (rest:List (af×Kd)) (f:Nat) (o:af) (T:Tm) (av:AV):Prop:=AG P K rest Ls (w7 f o T av H) (bc o.dst av T)
def AGE (P:Program) (K:Tm->List Blk->Prop) (Ls:List (List Blk)) (H:List gl) (rest:List (af×Kd)) (d:Option Nat) (T:Tm) (av:AV) (L2:List Blk):Prop:=l3 P L2 H/\AG P K rest (L2::Ls) (oQ H) (bc d av T)
def Cl (k:AV->List Blk->Prop):Option (Prop×AV×List Blk)->Prop
 | some (c,av,L2)=>c/\k av L2
 | none=>False
theorem zt {k:AV->List Blk->Prop} {c:Prop} {av:AV} {L2:List Blk}:Cl k (some (c,av,L2))=(c/\k av L2):=rfl
def IsV (v av:AV):Prop:=av=v
theorem D9 {o:af} {T:Tm} {v:AV} {H:List gl}:w7 0 o T v H=H:=rfl
theorem D8 {f:Nat} {o:af} {T:Tm} {v:AV} {H:List gl}:w7 (f+1) o T v H=(f+1,o,T,v)::H:=rfl
theorem B1:oQ []=[]:=rfl
theorem B0 {y:af×Tm×AV} {H:List gl}:oQ ((1,y)::H)=oQ H:=rfl
theorem Ed {y:af×Tm×AV} {H:List gl}:oQ ((n+2,y)::H)=(n+1,y)::oQ H:=rfl
theorem nB {k:AV->Prop}:(∃ v,AQ P ⟨d,op,none⟩ T L v/\k v)=tX P L k T op:=by
 by_cases h:op.isCall=false
 ·have e:tX P L k T op=Cm L k (ab T L op):=by cases op<;>simp only [LOp.isCall,GE] at h<;>rfl
  rw [e];simp only [AQ,Cx (o:=⟨d,op,none⟩) h];rcases ab T L op with _|⟨c,av,L'⟩
  ·simp [Cm]
  ·simp only [Cm,eq_iff_iff];exact ⟨fun ⟨v,⟨h1,h2,h3⟩,h4⟩=>⟨h1,h3,h2 ▸ h4⟩,fun ⟨h1,h2,h3⟩=>⟨av,⟨h1,rfl,h2⟩,h3⟩⟩
 ·cases op<;>simp only [LOp.isCall,not_true_eq_false] at h
  ·rename_i f xs
   simp only [AQ,AQv,tX];rcases dZ T xs with _|args
   ·simp [Ex]
   ·rfl
  ·rfl
theorem Du {k:AV->Prop}:(∃ v,(AQ P ⟨d,op,none⟩ T L v/\AQ P ⟨d,op,none⟩ T L1 v)/\k v)=Cj P L L1 k T op:=by
 by_cases h:op.isCall=false
 ·have e:Cj P L L1 k T op=xA L L1 k (ab T L op) (ab T L1 op):=by cases op<;>simp only [LOp.isCall,GE] at h<;>rfl
  rw [e];simp only [AQ,Cx (o:=⟨d,op,none⟩) h];rcases ab T L op with _|⟨c,av,L'⟩<;>rcases ab T L1 op with _|⟨c2,av2,L2⟩
  ·simp [xA]
  ·simp [xA]
  ·simp [xA]
  ·simp only [xA,eq_iff_iff];exact ⟨fun ⟨v,⟨⟨h1,h2,h3⟩,h4,h5,h6⟩,h7⟩=>⟨h1,h3,h4,h5.trans h2.symm,h6,h2 ▸ h7⟩,fun ⟨h1,h2,h3,h4,h5,h6⟩=>⟨av,⟨⟨h1,rfl,h2⟩,h3,h4,h5⟩,h6⟩⟩
 ·cases op<;>simp only [LOp.isCall,not_true_eq_false] at h
  ·rename_i f xs
   simp only [AQ,AQv,Cj];rcases dZ T xs with _|args
   ·simp [Ds]
   ·simp only [Ds,and_assoc]
  ·rfl
theorem xG {k:AV->Prop} {g:af->AV->Prop} (hg:∀ v,g ⟨d,op,some (t,b)⟩ v=match aj T t with|some (.bool x)=>if x=b then g ⟨d,op,none⟩ v else v=.tup []|some (.tup [])=>v=.tup []|_=>False) :
  (∃ v,g ⟨d,op,some (t,b)⟩ v/\k v)=wz b (∃ v,g ⟨d,op,none⟩ v/\k v) (k (.tup [])) (aj T t):=by
 simp only [hg];rcases aj T t with _|x
 ·simp [wz]
 ·cases x<;>simp only [wz,false_and,exists_false]
  ·rename_i x
   by_cases e:x=b
   ·simp [e]
   ·simp [e]
  ·rename_i l
   cases l with
   | nil=>simp
   | cons _ _=>simp
theorem EA {K:Tm->List Blk->Prop} {H:List gl}:AG P K [] (L::Ls) H T=K T L:=rfl
theorem Dw {K:Tm->List Blk->Prop} {H:List gl} {r:List (af×Kd)}:AG P K ((⟨d,op,none⟩,.pure)::r) (L::Ls) H T=tX P L (AGK P K (L::Ls) H r d T) T op:=nB
theorem CC {K:Tm->List Blk->Prop} {H:List gl} {r:List (af×Kd)}:AG P K ((⟨d,op,some (t,b)⟩,.pure)::r) (L::Ls) H T=wz b (tX P L (AGK P K (L::Ls) H r d T) T op) (AGK P K (L::Ls) H r d T (.tup [])) (aj T t):=by
 rw [<- nB (d:=d)];exact xG (g:=fun o v=>AQ P o T L v) fun v=>rfl
theorem CB {K:Tm->List Blk->Prop} {H:List gl} {r:List (af×Kd)} {f:Nat}:AG P K ((⟨d,op,none⟩,.read 0 f)::r) (L::Ls) H T=tX P L (AGR P K (L::Ls) H r f ⟨d,op,none⟩ T) T op:=by
 rw [<- nB (d:=d)];simp only [AG,Hm,GW,FM,forall_eq,AGR]
theorem zD {K:Tm->List Blk->Prop} {H:List gl} {r:List (af×Kd)} {f:Nat}:AG P K ((⟨d,op,some (t,b)⟩,.read 0 f)::r) (L::Ls) H T=wz b (tX P L (AGR P K (L::Ls) H r f ⟨d,op,some (t,b)⟩ T) T op) (AGR P K (L::Ls) H r f ⟨d,op,some (t,b)⟩ T (.tup [])) (aj T t):=by
 rw [<- nB (d:=d)];simp only [AG,Hm,GW,FM,forall_eq];exact xG (g:=fun o v=>AQ P o T L v) (k:=AGR P K (L::Ls) H r f ⟨d,op,some (t,b)⟩ T) fun v=>rfl
theorem CA {K:Tm->List Blk->Prop} {H:List gl} {r:List (af×Kd)} {f:Nat}:AG P K ((⟨d,op,none⟩,.read 1 f)::r) (L::L1::Ls) H T=Cj P L L1 (AGR P K (L::L1::Ls) H r f ⟨d,op,none⟩ T) T op:=by
 rw [<- Du (d:=d)];simp only [AG,Hm,GW,FX,Gw,or_false,forall_eq_or_imp,forall_eq,AGR]
def E8 (P:Program) (L:List Blk) (k:AV->List Blk->Prop) (T:Tm) (op:LOp):Prop :=
 match op with
 | .call f xs=>∃ v L2,EQv P ⟨none,.call f xs,none⟩ T L v L2/\k v L2
 | .callv f xs=>∃ v L2,EQv P ⟨none,.callv f xs,none⟩ T L v L2/\k v L2
 | lo=>Cl k (ab T L lo)
theorem EB {K:Tm->List Blk->Prop} {H:List gl} {r:List (af×Kd)}:AG P K ((⟨d,op,none⟩,.eff)::r) (L::Ls) H T=E8 P L (AGE P K (L::Ls) H r d T) T op:=by
 simp only [AG,EQ];have key:∀ lo:LOp,lo.isCall=false->(∃ v L2,EQv P ⟨d,lo,none⟩ T L v L2/\AGE P K (L::Ls) H r d T v L2)=Cl (AGE P K (L::Ls) H r d T) (ab T L lo):=fun lo hlo=>by
  have e:∀ v L2,EQv P ⟨d,lo,none⟩ T L v L2=(match ab T L lo with|some (c,av,L')=>c/\av=v/\L'=L2|none=>False):=fun v L2=>by
   cases lo<;>simp only [LOp.isCall,GE] at hlo<;>rfl
  simp only [e];rcases ab T L lo with _|⟨c,av,L'⟩
  ·simp [Cl]
  ·simp only [Cl,eq_iff_iff];exact ⟨fun ⟨v,L2,⟨h1,h2,h3⟩,h4⟩=>⟨h1,h2 ▸ h3 ▸ h4⟩,fun ⟨h1,h2⟩=>⟨av,L',⟨h1,rfl,rfl⟩,h2⟩⟩
 have key2:(∃ v L2,EQv P ⟨d,op,none⟩ T L v L2/\l3 P L2 H/\AG P K r (L2::L::Ls) (oQ H) (bc d v T))=(∃ v L2,EQv P ⟨d,op,none⟩ T L v L2/\AGE P K (L::Ls) H r d T v L2):=rfl;rw [key2];cases op
 case call=>rfl
 case callv=>rfl
 all_goals exact key _ rfl
theorem zx:l3 P L []=True:=rfl
theorem xB {f:Nat} {v:AV} {H:List gl}:l3 P L ((f,⟨d,op,none⟩,T,v)::H)=(tX P L (IsV v) T op/\l3 P L H):=by
 rw [<- nB (d:=d)];simp [l3,IsV]
theorem ww {f:Nat} {v:AV} {H:List gl}:l3 P L ((f,⟨d,op,some (t,b)⟩,T,v)::H)=(wz b (tX P L (IsV v) T op) (IsV v (.tup [])) (aj T t)/\l3 P L H):=by
 rw [<- nB (d:=d),<- xG (g:=fun o v=>AQ P o T L v) (k:=IsV v) (d:=d) (op:=op) (t:=t) (b:=b) (T:=T) fun v=>rfl];simp [l3,IsV]
theorem iF {N:Nat} {own:Nat->Nat->Nat} {Q:Exit->Tm->List Blk->Prop} {qk:List (af×Kd)} {ts:List af} (h:AG P (fO P (Q .normal) ts) qk [L] [] T):AW P N own (.dregion qk ts) Q T L:=tM h
end
theorem zf (xs:List Int):AV.frzL (xs.map (AV.int .i64))=xs.map (AV.int .i64):=by rw [AV.frzL_eq,FR];rfl
theorem Bv (xs:List Int):(xs.map (AV.int .i64)).all AV.one=true:=by rw [List.all_map];simp [AV.one]
theorem DS:IntKind.i64.wrap 0=0:=by decide
theorem DR:IntKind.i64.wrap 1=1:=by decide
theorem DQ:IntKind.i64.wrap 2=2:=by decide
theorem CF:IntKind.i64.wrap (-1)=-1:=by decide
structure Nx (p:Prop):Prop where
 out:p
structure NxI (c p:Prop):Prop where
 out:c->p
theorem lE {c p:Prop} (h:c->p):NxI c p:=⟨h⟩
theorem qE {p:Prop} (h:p):Nx p:=⟨h⟩
section
variable {P:Program} {L:List Blk} {body:List SOp} {d:Nat} {x:Opd} {k:Tm->Prop} {T:Tm} {c:Prop} [Decidable c] {p q:Bool}
theorem lH (h:NxI (c) (GL P L body (IsX x q) T)) (hk:Nx (k ((d,.bool (decide c && q))::T))):GQ P L true body d x k T (decide c):=⟨q,fun e=>h.out (of_decide_eq_true e),hk.out⟩
theorem iz (h:NxI (¬ c) (GL P L body (IsX x q) T)) (hk:Nx (k ((d,.bool (!decide c && q))::T))):GQ P L true body d x k T (!decide c):=⟨q,fun e=>h.out (by simpa using e),hk.out⟩
theorem lI (h:NxI (¬ c) (GL P L body (IsX x q) T)) (hk:Nx (k ((d,.bool (decide c || q))::T))):GQ P L false body d x k T (decide c):=⟨q,fun e=>h.out (of_decide_eq_false e),hk.out⟩
theorem iA (h:NxI (c) (GL P L body (IsX x q) T)) (hk:Nx (k ((d,.bool (!decide c || q))::T))):GQ P L false body d x k T (!decide c):=⟨q,fun e=>h.out (by simpa using e),hk.out⟩
theorem lJ (h:NxI (p=true) (GL P L body (IsX x q) T)) (hk:Nx (k ((d,.bool (p && q))::T))):GQ P L true body d x k T p:=⟨q,h.out,hk.out⟩
theorem iB (h:NxI (p=false) (GL P L body (IsX x q) T)) (hk:Nx (k ((d,.bool (p || q))::T))):GQ P L false body d x k T p:=⟨q,h.out,hk.out⟩
variable {a b:Prop} [Decidable a] [Decidable b]
theorem Ek:(decide a && decide b)=decide (a/\b):=(HR a b).symm
theorem Ei:(!decide a && decide b)=decide (¬ a/\b):=by simp [HR]
theorem Ej:(decide a && !decide b)=decide (a/\¬ b):=by simp [HR]
theorem Eh:(!decide a && !decide b)=decide (¬ a/\¬ b):=by simp [HR]
theorem EH:(decide a || decide b)=decide (a\/b):=(HS a b).symm
theorem EF:(!decide a || decide b)=decide (¬ a\/b):=by simp [HS]
theorem EG:(decide a || !decide b)=decide (a\/¬ b):=by simp [HS]
theorem EE:(!decide a || !decide b)=decide (¬ a\/¬ b):=by simp [HS]
end
attribute [push_cast] Dq evD deg FK Es Fe Et Dr Fd Fc E7 En E6 Em Eo xR Dx Dy Cs Ff yq Fb GOp IsX Ek Ei Ej Eh EH EF EG EE GY Hi Hp HT Bool.true_or Bool.or_true Hk Bool.or_false Hh HM
attribute [push_cast] DS DR DQ CF AGK AGR AGE IsV zt D9 D8 B1 B0 Ed EA Dw CC CB zD CA EB E8 zx xB ww zw zu Ew Ev zy Cr tX Cj eq_self xF vE Cy zC xH nj yo Ck Cu zA AOp ab evX dZ aj bc bin Di Dh un eqA row eT AV.cells? bnd yl xC au sw vE elems app tE du AV.frz AV.frzL zf Bv GK Option.bind_none FK F0 Gf Option.getD_none if_true if_false true_and and_true FT Gu FP FS Gg Hv u6 lx CT CS Dp G8 Gs Ge GJ Hl Nat.mul_one Nat.one_mul GP Nat.mul_zero List.getD_cons_zero List.getD_cons_succ Hh HM decide_true decide_false forall_const not_true_eq_false not_false_eq_true ne_eq FI GE List.drop_zero List.drop_succ_cons Hm GW bI List.set_cons_zero List.set_cons_succ Hd List.all_nil AV.one Bool.and_self Hi GY false_implies implies_true decide_eq_true_eq decide_eq_false_iff_not Ho Int.toNat_zero Int.toNat_natCast F6 Bool.not_not Bool.not_eq_false
theorem nC {P:Program} {f:FuncId} {args:List AV} {L:List Blk} {K:AV->List Blk->Prop} (h:ae P f (AV.frzL args) L K):ae P f args L K:=fun w0 S0 E w vs hR hv =>
 h w0 S0 E w vs hR (VRL.frz _ _ hv)
end Go.Proofs.Ytobihfefmlgaoaa.Av
