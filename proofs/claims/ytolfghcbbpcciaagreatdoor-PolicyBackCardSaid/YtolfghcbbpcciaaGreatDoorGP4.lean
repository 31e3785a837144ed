/- Joined texts of the walk, made small by a program. -/
import Derived.Test.YtolfghcbbpcciaaGreatDoorGP3
set_option linter.unusedSimpArgs false
set_option linter.unusedVariables false
namespace Go.Proofs.YtolfghcbbpcciaaGreatDoor.Av
open Go
def EQv (P:Program) (o:ad) (T:Tm) (L:List Blk) (v:AV) (L2:List Blk):Prop :=
 match o.op with
 | .call f xs=>match fw T xs with
   | some args=>ao P f args L fun av L'=>av=v∧L'=L2
   | none=>False
 | .callv f xs=>match evX T f,fw T xs with
   | some (.func g caps),some args=>ao P g (args++caps) L fun av L'=>av=v∧L'=L2
   | _,_=>False
 | lo=>match an T L lo with
   | some (c,av,L')=>c∧av=v∧L'=L2
   | none=>False
def EQ (P:Program) (o:ad) (T:Tm) (L:List Blk) (v:AV) (L2:List Blk):Prop :=
 match o.guard with
 | none=>EQv P o T L v L2
 | some (t,b)=>match aM T t with
   | some (.bool x)=>if x=b then EQv P o T L v L2 else v=.tup []∧L2=L
   | some (.tup [])=>v=.tup []∧L2=L
   | _=>False
theorem EQv.congr {P:Program} {o:ad} {T T':Tm} {L L2:List Blk} {v:AV} (h1:∀ t∈o.op.tmps,aM T t=aM T' t) (hv:EQv P o T L v L2):EQv P o T' L v L2:=by
 unfold EQv at hv ⊢
 split at hv
 · rename_i f xs e
   rw [e] at h1
   rw [← hP (l:=xs) h1];exact hv
 · rename_i f xs e
   rw [e] at h1
   simp only [LOp.tmps,List.mem_append] at h1
   rw [← hP (l:=xs) (fun t ht=>h1 t (.inr ht)),← aV (x:=f) (fun t ht=>h1 t (.inl ht))];exact hv
 · rw [← Il h1];exact hv
theorem EQ.congr {P:Program} {o:ad} {T T':Tm} {L L2:List Blk} {v:AV} (h:∀ t∈o.reads,aM T t=aM T' t) (hq:EQ P o T L v L2):EQ P o T' L v L2:=by
 have h1:∀ t∈o.op.tmps,aM T t=aM T' t:=fun t ht=>h t (by simp [ad.reads,ht])
 unfold EQ at hq ⊢
 split at hq
 · exact hq.congr h1
 · rename_i t b hg
   rw [← h t (by simp [ad.reads,hg])]
   split at hq
   · split at hq
     · rename_i e;rw [if_pos e];exact hq.congr h1
     · rename_i e;rw [if_neg e];exact hq
   · exact hq
   · exact hq.elim
theorem EQv.aop {P:Program} {o:ad} {T:Tm} {L L2:List Blk} {v:AV} (hq:EQv P o T L v L2):AOp P o (fun T' L'=>T'=bU o.dst v T∧L'=L2) T L:=by
 unfold EQv at hq
 unfold AOp
 split at hq
 · rename_i f xs e
   simp only [e]
   split at hq
   · rename_i args ha
     rw [ha]
     exact ao.mono hq fun av L' ⟨h1,h2⟩=>⟨by rw [h1],h2⟩
   · exact hq.elim
 · rename_i f xs e
   simp only [e]
   split at hq
   · rename_i g caps args hf ha
     rw [hf,ha]
     exact ao.mono hq fun av L' ⟨h1,h2⟩=>⟨by rw [h1],h2⟩
   · exact hq.elim
 · rename_i lo h1 h2
   split at hq
   · rename_i c av L' he
     have hres:Res (fun T' L'=>T'=bU o.dst v T∧L'=L2) o.dst T (an T L o.op):=by
       rw [he]
       obtain ⟨hc,rfl,rfl⟩:=hq
       exact ⟨hc,rfl,rfl⟩
     obtain ⟨d,lop,g⟩:=o
     cases lop<;>first|exact hres|(simp [an] at he)
   · exact hq.elim
theorem EQ.aops {P:Program} {o:ad} {T:Tm} {L L2:List Blk} {v:AV} (hq:EQ P o T L v L2):ic P (fun T' L'=>T'=bU o.dst v T∧L'=L2) [o] T L:=by
 unfold EQ at hq
 simp only [ic]
 split at hq
 · rename_i hg
   simp only [hg]
   exact hq.aop
 · rename_i t b hg
   simp only [hg]
   split at hq
   · rename_i x hx
     rw [hx,CT]
     split at hq
     · rename_i e;rw [if_pos e];exact hq.aop
     · rename_i e;rw [if_neg e];exact ⟨by rw [hq.1],hq.2.symm⟩
   · rename_i hx
     rw [hx,Q2];exact ⟨by rw [hq.1],hq.2.symm⟩
   · exact hq.elim
def done (es:List Nat) (listed:Array Bool):Nat:=es.countP fun e=>listed.getD e false
theorem JZ:∀ (es:List Nat) (f:Nat→Bool) (m:Nat),(∀ (j e:Nat),es[j]?=some e→f e=decide (j<m))→m≤es.length→es.countP f=m
 | [],f,m,_,hm=>by simp at hm;simp [hm]
 | e::es,f,0,h,_=>by
   refine List.countP_eq_zero.2 fun x hx=>?_
   obtain ⟨j,hj,rfl⟩:=List.mem_iff_getElem.1 hx
   have:=h j _ (List.getElem?_eq_getElem hj)
   simp [this]
 | e::es,f,m+1,h,hm=>by
   rw [List.countP_cons_of_pos (by have:=h 0 e rfl;simpa using this)]
   rw [JZ es f m (fun j x hx=>by have:=h (j+1) x (by simpa using hx);rw [this];congr 1;simp) (by simpa using hm)]
theorem JM:∀ (es:List Nat) (f:Nat→Bool),(∀ (j j' e e':Nat),es[j]?=some e→es[j']?=some e'→j<j'→f e'=true→f e=true)→∀ (j e:Nat),es[j]?=some e→f e=decide (j<es.countP f)
 | [],f,_,j,e,h=>by simp at h
 | x::es,f,hp,j,e,h=>by
   have ih:=JM es f fun a b y z h1 h2 h3=>hp (a+1) (b+1) y z (by simpa using h1) (by simpa using h2) (by omega)
   by_cases hx:f x=true
   · rw [List.countP_cons_of_pos hx]
     cases j with
     | zero=>simp at h;subst h;simp [hx]
     | succ j=>rw [ih j e (by simpa using h)];congr 1;simp
   · have all:∀ y∈es,f y=false:=fun y hy=>by
       obtain ⟨k,hk,rfl⟩:=List.mem_iff_getElem.1 hy
       rcases hf:f es[k] with _|_
       · rfl
       · exact absurd (hp 0 (k+1) x es[k] rfl (by simp) (by omega) hf) hx
     rw [List.countP_cons_of_neg hx,List.countP_eq_zero.2 (fun y hy=>by simp [all y hy])]
     simp only [Nat.not_lt_zero,decide_false]
     cases j with
     | zero=>simp at h;subst h;simpa using hx
     | succ j=>exact all e (List.mem_of_getElem? (by simpa using h))
section
variable {P:Program} {w0:World} {S0:Nat→Prop} {N:Nat} {own:Nat→Nat} {ops:Array Oper} {L:List Blk}
theorem Qf {los:List ad} {n:Nat} (hlow:bS P N own ops (List.range ops.size)=some los) (hok:F2 ops los n=true) {qs ts:List ad} (hsplit:los=qs++ts) (hn:qs.length=n) {es:List Nat} {Ms:Nat→List Blk} (hes:∀ e∈es,e<qs.length)
   (hch:∀ (j j' e e':Nat),es[j]?=some e→es[j']?=some e'→j<j'→((jA ops.toList []).getD e' 0).testBit e=true)
   {K:Tm→List Blk→Prop} {T:Tm} {Q:Exit→Act→World→Prop} {E0:Env} {tr:List AV} (htr:tr.length=qs.length)
   (hq:∀ (i:Nat) (o:ad) (v:AV),qs[i]?=some o→tr[i]?=some v→(∃ m,es[m]?=some i∧EQ P o (TL T qs tr 0 fun j=>decide (j<i)) (Ms m) v (Ms (m+1))) ∨
     (i ∉ es∧∀ m,m≤es.length→(∀ (j e:Nat),es[j]?=some e→j<m→((jA ops.toList []).getD e 0).testBit i=false)→(∀ (j e:Nat),es[j]?=some e→m≤j→((jA ops.toList []).getD i 0).testBit e=false)→AQ P o (TL T qs tr 0 fun j=>decide (j<i)) (Ms m) v))
   (hK:ic P K ts (TL T qs tr 0 fun _=>true) (Ms es.length))
   (hQ:∀ E' T' L' a' w',E0.le E'→K T' L'→St w0 S0 N E' T' L' a' w'→Q .normal a' w') :
   ∀ (fuel:Nat) (listed:Array Bool) (a:Act) (w:World) (E:Env),listed.size=ops.size→listed.toList.count false=fuel→Jk ops listed→E0.le E →
     (∀ i,qs.length≤i→listed.getD i false=false)→St w0 S0 N E (TL T qs tr 0 fun j=>listed.getD j false) (Ms (done es listed)) a w→wpAny P .any ops Q fuel listed a w:=by
 simp only [F2,Bool.and_eq_true] at hok
 generalize htbl:jA ops.toList []=tbl at hok hch hq
 obtain ⟨⟨⟨⟨hdist,htied⟩,hahead⟩,hfix⟩,hchain⟩:=hok
 have hget:=pR hlow
 have hlen:los.length=ops.size:=by simpa using hget.1
 have hlo:∀ i,i<ops.size→∃ lo,los[i]?=some lo∧ii P N own ops i=some lo:=fun i hi=>hget.2 i i (by simp [hi])
 have hD:Pm qs:=by
   have:=LN hdist
   rw [hsplit] at this
   have sub:∀ (qs ts:List ad),Pm (qs++ts)→Pm qs:=by
     intro qs
     induction qs with
     | nil=>intro _ _;trivial
     | cons q qs ih=>intro ts h;exact ⟨fun p hp=>h.1 p (by simp [hp]),ih ts h.2⟩
   exact sub _ _ this
 have hqlen:qs.length+ts.length=ops.size:=by rw [← hlen,hsplit];simp
 have allListed:∀ listed:Array Bool,listed.size=ops.size→Region.ready .any ops listed=[]→∀ i,i<ops.size→listed.getD i false=true:=by
   intro listed hsz hr i
   induction i using Nat.strongRecOn with
   | _ i ih =>
     intro hi
     rcases hb:listed.getD i false with _|_
     · exfalso
       have:i∈Region.ready .any ops listed:=by
         refine mem_ready.2 ⟨?_,ops[i],Array.getElem?_eq_getElem hi,fun e he hbd=>?_⟩
         · have hi':i<listed.size:=by omega
           simp [Array.getD_eq_getD_getElem?,hi'] at hb ⊢
           exact hb
         · have:=List.all_eq_true.1 hahead (ops[i],i) (by
             rw [List.mem_zipIdx_iff_getElem?]
             simp [hi])
           have:=List.all_eq_true.1 this e (by simpa using he)
           simp only [hbd,Bool.not_true,Bool.false_or,decide_eq_true_eq] at this
           exact ih e.on this (by omega)
       rw [hr] at this;cases this
     · rfl
 have getD_eq:∀ (listed:Array Bool) (i:Nat),listed.size=ops.size→i<ops.size→listed.getD i true=listed.getD i false:=fun listed i h1 h2=>by
   have:i<listed.size:=by omega
   simp [Array.getD_eq_getD_getElem?,this]
 have finish:∀ (listed:Array Bool) (a:Act) (w:World) (E:Env) (fuel:Nat),listed.size=ops.size→listed.toList.count false=fuel→Jk ops listed→E0.le E→(∀ i,qs.length≤i→listed.getD i false=false)→St w0 S0 N E (TL T qs tr 0 fun j=>listed.getD j false) (Ms (done es listed)) a w →
     (∀ i,i<qs.length→listed.getD i false=true)→wpAny P .any ops Q fuel listed a w:=by
   intro listed a w E fuel hsz hcnt hcl hE hnot hst hall
   have hTL:TL T qs tr 0 (fun j=>listed.getD j false)=TL T qs tr 0 fun _=>true:=Mj fun j hj=>by
     simp only [Nat.zero_add];exact hall j hj
   have hL:Ms (done es listed)=Ms es.length:=by
     congr 1
     exact List.countP_eq_length.2 fun e he=>hall e (hes e he)
   rw [hTL,hL] at hst
   have hdrop:los.drop qs.length=ts:=by rw [hsplit];simp
   have hfuel:fuel=ts.length:=by
     rw [← hcnt,← Nat.add_left_cancel_iff (n:=qs.length),hqlen,← hsz]
     have e:listed.toList=List.replicate qs.length true++List.replicate (listed.size - qs.length) false:=by
       apply List.ext_getElem?
       intro i
       rcases Nat.lt_or_ge i qs.length with h1|h1
       · have:=hall i h1
         have hlt:i<listed.size:=by omega
         rw [List.getElem?_append_left (by simpa using h1)]
         simp [Array.getD_eq_getD_getElem?,hlt] at this
         simp [hlt,h1,this]
       · rw [List.getElem?_append_right (by simpa using h1)]
         have:=hnot i h1
         rcases Nat.lt_or_ge i listed.size with h2|h2
         · simp [Array.getD_eq_getD_getElem?,h2] at this
           simp only [List.length_replicate]
           rw [List.getElem?_replicate]
           rw [if_pos (by omega)]
           simp [h2,this]
         · rw [List.getElem?_eq_none (by simpa using h2),List.getElem?_eq_none (by simp;omega)]
     rw [e]
     simp [List.count_append,List.count_replicate]
     omega
   rw [hfuel]
   exact Pr hlow hahead hfix hchain hQ ts qs.length listed _ _ a w E (by omega) hqlen hdrop hsz (fun i hi=>by
     rcases Nat.lt_or_ge i qs.length with h1|h1
     · rw [hall i h1];simpa using h1
     · rw [hnot i h1];simpa using h1) hcl hE hst hK
 intro fuel
 induction fuel with
 | zero =>
   intro listed a w E hsz hcnt hcl hE hnot hst
   have hr:Region.ready .any ops listed=[]:=by
     refine List.eq_nil_iff_forall_not_mem.2 fun i hi=>?_
     obtain ⟨h1,o,ho,_⟩:=mem_ready.1 hi
     have hi':i<ops.size:=(Array.getElem?_eq_some_iff.1 ho).1
     have:false∈listed.toList:=by
       have hlt:i<listed.size:=by omega
       simp [Array.getD_eq_getD_getElem?,hlt] at h1
       rw [← h1];simp
     rw [List.count_eq_zero] at hcnt
     exact hcnt this
   exact finish listed a w E 0 hsz hcnt hcl hE hnot hst fun i hi=>allListed listed hsz hr i (by omega)
 | succ fuel ih =>
   intro listed a w E hsz hcnt hcl hE hnot hst
   by_cases hall:∀ i,i<qs.length→listed.getD i false=true
   · exact finish listed a w E _ hsz hcnt hcl hE hnot hst hall
   refine ⟨fun hr=>absurd (fun i hi=>allListed listed hsz hr i (by omega)) hall,fun i hi=>?_⟩
   obtain ⟨hun,o,ho,hedges⟩:=mem_ready.1 hi
   have hi':i<ops.size:=(Array.getElem?_eq_some_iff.1 ho).1
   have hun':listed.getD i false=false:=by rw [← getD_eq listed i hsz hi'];exact hun
   obtain ⟨lo,hlo1,hlo2⟩:=hlo i hi'
   have hready:∀ o',ops[i]?=some o'→∀ e∈o'.after,Region.binds .any e=true→listed.getD e.on false=true:=fun o' ho'=>by
     rw [ho] at ho';cases ho';exact hedges
   have hset:∀ k,(listed.setIfInBounds i true).getD k false=if k=i then true else listed.getD k false:=fun k=>by
     by_cases e:k=i
     · subst e
       have:k<listed.size:=by omega
       simp [Array.getD_eq_getD_getElem?,this]
     · rw [if_neg e];exact getD_set_ne false (Ne.symm e)
   have hcnt':(listed.setIfInBounds i true).toList.count false=fuel:=by
     have hlt:i<listed.size:=by omega
     have:=M9 listed.toList i (by
       simp [Array.getD_eq_getD_getElem?,hlt] at hun'
       simp [hlt,hun'])
     rw [Array.toList_setIfInBounds]
     omega
   have hcl':Jk ops (listed.setIfInBounds i true):=fun k o' hk ho' e he hb=>by
     rw [hset] at hk ⊢
     by_cases e1:e.on=i
     · rw [if_pos e1]
     · rw [if_neg e1]
       by_cases e2:k=i
       · subst e2;exact hready o' ho' e he hb
       · rw [if_neg e2] at hk;exact hcl k o' hk ho' e he hb
   rcases Nat.lt_or_ge i qs.length with hiq|hiq
   ·
     have hqi:qs[i]?=some lo:=by
       rw [hsplit,List.getElem?_append_left hiq] at hlo1;exact hlo1
     have hti:i<tr.length:=by omega
     have agree:∀ t∈lo.reads,aM (TL T qs tr 0 fun j=>decide (j<i)) t=aM (TL T qs tr 0 fun j=>listed.getD j false) t:=by
       intro t ht
       by_cases hw:∃ (j:Nat) (p:ad),qs[j]?=some p∧p.dst=some t
       · obtain ⟨j,p,hp,hd⟩:=hw
         have hjq:j<qs.length:=(List.getElem?_eq_some_iff.1 hp).1
         rw [N1 hD htr hp hd,N1 hD htr hp hd]
         have hlj:los[j]?=some p:=by rw [hsplit,List.getElem?_append_left hjq];exact hp
         have:=List.all_eq_true.1 htied (lo,i) (by rw [List.mem_zipIdx_iff_getElem?];simpa using hlo1)
         have:=List.all_eq_true.1 this t ht
         have:=List.all_eq_true.1 this (p,j) (by rw [List.mem_zipIdx_iff_getElem?];simpa using hlj)
         simp only [hd,beq_self_eq_true,Bool.not_true,Bool.false_or,Bool.or_eq_true,List.contains_iff_mem] at this
         rcases this with h1|h1
         · have e1:=NW hahead hfix _ _ (by omega) h1
           have e2:=eB hahead hfix hcl i j hi' hready h1
           simp only [decide_eq_true_eq,if_pos e1,if_pos e2]
         · have e1:=NW hahead hfix _ _ (by omega) h1
           have e2:listed.getD j false=false:=by
             rcases hb:listed.getD j false with _|_
             · rfl
             · have:=eB hahead hfix hcl j i (by omega) (fun o' ho'=>hcl j o' hb ho') h1
               rw [hun'] at this;cases this
           simp only [decide_eq_true_eq,if_neg (show ¬ j<i by omega),e2,Bool.false_eq_true,if_false]
       · have hno:∀ (j:Nat) (p:ad),qs[j]?=some p→p.dst≠some t:=fun j p hp hd=>hw ⟨j,p,hp,hd⟩
         rw [N2 hno,N2 hno]
     have hTnew:∀ (t:Nat) (v:AV),aM (TL T qs tr 0 fun j=>(listed.setIfInBounds i true).getD j false) t=some v→aM (bU lo.dst tr[i] (TL T qs tr 0 fun j=>listed.getD j false)) t=some v:=by
       intro t v hv
       by_cases hw:∃ (j:Nat) (p:ad),qs[j]?=some p∧p.dst=some t
       · obtain ⟨j,p,hp,hd⟩:=hw
         rw [N1 hD htr hp hd] at hv
         by_cases e:j=i
         · subst e
           rw [hqi] at hp;cases hp
           rw [hd,H0]
           rw [if_pos (by rw [hset,if_pos rfl]),List.getElem?_eq_getElem hti] at hv
           exact hv
         · have hne:lo.dst≠some t:=fun e'=>e (CV hD hp hqi hd e')
           rw [pS hne,N1 hD htr hp hd]
           simp only [hset,if_neg e] at hv
           exact hv
       · have hno:∀ (j:Nat) (p:ad),qs[j]?=some p→p.dst≠some t:=fun j p hp hd=>hw ⟨j,p,hp,hd⟩
         rw [N2 hno] at hv
         rw [pS (hno i lo hqi),N2 hno]
         exact hv
     have hnot':∀ k,qs.length≤k→(listed.setIfInBounds i true).getD k false=false:=fun k hk=>by
       rw [hset,if_neg (by omega)];exact hnot k hk
     have hpre:∀ j e,es[j]?=some e→listed.getD e false=decide (j<done es listed):=JM es _ fun j j' e e' h1 h2 h3 h4=>by
       have hlt:e'<ops.size:=by have:=hes e' (List.mem_of_getElem? h2);omega
       exact eB hahead hfix hcl e' e hlt (fun o' ho'=>hcl e' o' h4 ho') (hch j j' e e' h1 h2 h3)
     have hdl:done es listed≤es.length:=List.countP_le_length
     rcases hq i lo tr[i] hqi (List.getElem?_eq_getElem hti) with ⟨m,g1,g2⟩|⟨g1,g2⟩
     · have hm:done es listed=m:=by
         have h1:=hpre m i g1
         rw [hun'] at h1
         have h2:¬ m<done es listed:=by simpa using h1.symm
         rcases Nat.lt_or_ge (done es listed) m with h3|h3
         · obtain ⟨e,he⟩:∃ e,es[done es listed]?=some e:=⟨_,List.getElem?_eq_getElem (by have:=(List.getElem?_eq_some_iff.1 g1).1;omega)⟩
           have h4:=hpre _ e he
           rw [eB hahead hfix hcl i e hi' hready (hch _ _ e i he g1 h3)] at h4
           simp at h4
         · omega
       have hm':done es (listed.setIfInBounds i true)=m+1:=by
         refine JZ es _ (m+1) (fun j e he=>?_) (by have:=(List.getElem?_eq_some_iff.1 g1).1;omega)
         rw [hset]
         by_cases e1:e=i
         · subst e1
           rw [if_pos rfl]
           rcases Nat.lt_trichotomy j m with h3|h3|h3
           · simp;omega
           · simp;omega
           · have:=NW hahead hfix e e hi' (hch m j e e g1 he h3)
             omega
         · rw [if_neg e1,hpre j e he,hm]
           have:j≠m:=fun e2=>by subst e2;rw [g1] at he;cases he;exact e1 rfl
           congr 1;simp only [eq_iff_iff];omega
       rw [hm] at hst
       refine Mg hlo2 hst (EQ.aops (EQ.congr agree g2)) fun E' T' L' a' w' hle ⟨e1,e2⟩ hst'=>ih _ a' w' E' (by simpa using hsz) hcnt' hcl' (hE.trans hle) hnot' ?_
       subst e1;subst e2
       rw [hm']
       exact hst'.weak hTnew rfl fun _ _ e=>.inr e
     · have hL:done es (listed.setIfInBounds i true)=done es listed:=by
         unfold done
         refine List.countP_congr fun e he=>?_
         rw [hset,if_neg (fun e1:e=i=>g1 (e1 ▸ he))]
       have hAQ:=g2 (done es listed) hdl (fun j e he hj=>by
         rcases hb:(tbl.getD e 0).testBit i with _|_
         · rfl
         · have h1:=hpre j e he
           rw [decide_eq_true hj] at h1
           have hlt:e<ops.size:=by have:=hes e (List.mem_of_getElem? he);omega
           have:=eB hahead hfix hcl e i hlt (fun o' ho'=>hcl e o' h1 ho') hb
           rw [hun'] at this;cases this) (fun j e he hj=>by
         rcases hb:(tbl.getD i 0).testBit e with _|_
         · rfl
         · have h1:=hpre j e he
           rw [eB hahead hfix hcl i e hi' hready hb] at h1
           have:=of_decide_eq_true h1.symm
           omega)
       refine Uf hlo2 hst (hAQ.congr agree) fun E' a' w' hle hst'=>ih _ a' w' E' (by simpa using hsz) hcnt' hcl' (hE.trans hle) hnot' ?_
       rw [hL]
       exact hst'.weak hTnew rfl fun _ _ e=>.inr e
   ·
     refine absurd (fun j hj=>?_) hall
     have h1:=List.all_eq_true.1 hchain i (by simpa using hi')
     simp only [Bool.or_eq_true,decide_eq_true_eq] at h1
     rcases h1 with h2|h2
     · omega
     · have h3:=List.all_eq_true.1 h2 j (by simp;omega)
       exact eB hahead hfix hcl i j hi' hready h3
end
inductive Kd where
 | pure
 | read (n f:Nat)
 | eff
 deriving Inhabited,DecidableEq
abbrev iL:=Nat×ad×Tm×AV
def vd (P:Program) (L:List Blk):List iL→Prop
 | []=>True
 | (_,o,T,v)::h=>AQ P o T L v∧vd P L h
def F3:List iL→List iL
 | []=>[]
 | (0,_)::h=>F3 h
 | (1,_)::h=>F3 h
 | (n+2,y)::h=>(n+1,y)::F3 h
def PR (f:Nat) (o:ad) (T:Tm) (v:AV) (H:List iL):List iL :=
 match f with
 | 0=>H
 | f+1=>(f+1,o,T,v)::H
def AG (P:Program) (K:Tm→List Blk→Prop):List (ad×Kd)→List (List Blk)→List iL→Tm→Prop
 | [],L::_,_,T=>K T L
 | (o,.pure)::r,L::Ls,H,T=>∃ v,AQ P o T L v∧AG P K r (L::Ls) H (bU o.dst v T)
 | (o,.read n f)::r,L::Ls,H,T=>∃ v,(∀ L'∈(L::Ls).take (n+1),AQ P o T L' v)∧AG P K r (L::Ls) (PR f o T v H) (bU o.dst v T)
 | (o,.eff)::r,L::Ls,H,T=>∃ v L2,EQ P o T L v L2∧vd P L2 H∧AG P K r (L2::L::Ls) (F3 H) (bU o.dst v T)
 | _,[],_,_=>False
def gY:List (ad×Kd)→Nat
 | []=>0
 | (_,.eff)::r=>gY r+1
 | _::r=>gY r
def mem (Ns:List (List Blk)) (m:Nat):List Blk:=Ns.reverse.getD m []
theorem pQ {X Ls:List (List Blk)} {m:Nat} (h:m<Ls.length):mem (X++Ls) m=Ls.getD (Ls.length - 1 - m) []:=by
 simp only [mem,List.reverse_append,List.getD_eq_getElem?_getD]
 rw [List.getElem?_append_left (by simpa using h),List.getElem?_reverse h]
theorem Ni {P:Program} {L:List Blk}:∀ {H:List iL},vd P L H→∀ y∈H,AQ P y.2.1 y.2.2.1 L y.2.2.2
 | [],_,y,hy=>by cases hy
 | (f,o,T,v)::h,hr,y,hy=>by
   rcases List.mem_cons.1 hy with rfl|hy
   · exact hr.1
   · exact Ni hr.2 y hy
theorem Im:∀ {H:List iL} {y:iL},y∈H→1<y.1→(y.1 - 1,y.2)∈F3 H
 | [],y,hy,_=>by cases hy
 | (0,z)::h,y,hy,h1=>by
   rcases List.mem_cons.1 hy with rfl|hy
   · simp at h1
   · show (y.1 - 1,y.2)∈F3 h
     exact Im hy h1
 | (1,z)::h,y,hy,h1=>by
   rcases List.mem_cons.1 hy with rfl|hy
   · simp at h1
   · show (y.1 - 1,y.2)∈F3 h
     exact Im hy h1
 | (n+2,z)::h,y,hy,h1=>by
   rcases List.mem_cons.1 hy with rfl|hy
   · simp [F3]
   · exact List.mem_cons_of_mem _ (Im hy h1)
def Q0 (P:Program) (o:ad) (T:Tm) (Ns:List (List Blk)) (v:AV) (c:Nat):Kd→Prop
 | .pure=>AQ P o T (mem Ns c) v
 | .read n f=>∀ m,c - n≤m→m≤c+f→m<Ns.length→AQ P o T (mem Ns m) v
 | .eff=>EQ P o T (mem Ns c) v (mem Ns (c+1))
theorem UA {P:Program} {K:Tm→List Blk→Prop}:∀ (qk:List (ad×Kd)) (Ls:List (List Blk)) (H:List iL) (T:Tm) (k:Nat),AG P K qk Ls H T →
   ∃ (tr:List AV) (X:List (List Blk)),tr.length=qk.length∧X.length=gY qk ∧
     (∀ y∈H,∀ m,Ls.length≤m→m<Ls.length+y.1→m<(X++Ls).length→AQ P y.2.1 y.2.2.1 (mem (X++Ls) m) y.2.2.2) ∧
     (∀ i o kd v,qk[i]?=some (o,kd)→tr[i]?=some v→Q0 P o (TL T (qk.map (·.1)) tr k fun j=>decide (j<k+i)) (X++Ls) v (Ls.length - 1+gY (qk.take i)) kd) ∧
     K (TL T (qk.map (·.1)) tr k fun _=>true) (mem (X++Ls) ((X++Ls).length - 1)):=by
 intro qk
 induction qk with
 | nil =>
   intro Ls H T k h
   cases Ls with
   | nil=>exact h.elim
   | cons L Ls =>
     refine ⟨[],[],rfl,rfl,fun y _ m h1 _ h3=>?_,fun i o kd v hi=>by simp at hi,?_⟩
     · simp only [List.nil_append] at h3;omega
     · rw [List.nil_append,← List.nil_append (L::Ls),pQ (by simp)]
       have h':K T L:=h
       simpa [TL] using h'
 | cons q qk ih =>
   intro Ls H T k h
   cases Ls with
   | nil=>rcases q with ⟨o,_|_|_⟩<;>exact h.elim
   | cons L Ls =>
     obtain ⟨o,kd⟩:=q
     have tl0:∀ (v:AV) (tr:List AV),TL T (((o,kd)::qk).map (·.1)) (v::tr) k (fun j=>decide (j<k+0))=T:=fun v tr=>by
       have e:TL T (((o,kd)::qk).map (·.1)) (v::tr) k (fun j=>decide (j<k+0))=TL T (((o,kd)::qk).map (·.1)) (v::tr) k (fun _=>false):=Mj fun j _=>by simp
       rw [e]
       exact Ph _ _ _ _
     have tls:∀ (v:AV) (tr:List AV) (i:Nat),TL T (((o,kd)::qk).map (·.1)) (v::tr) k (fun j=>decide (j<k+(i+1)))=TL (bU o.dst v T) (qk.map (·.1)) tr (k+1) (fun j=>decide (j<k+1+i)):=fun v tr i=>by
       simp only [List.map_cons,TL]
       rw [if_pos (by simp)]
       exact Mj fun j _=>by congr 1;simp;omega
     have tlt:∀ (v:AV) (tr:List AV),TL T (((o,kd)::qk).map (·.1)) (v::tr) k (fun _=>true)=TL (bU o.dst v T) (qk.map (·.1)) tr (k+1) (fun _=>true):=fun v tr=>by
       simp only [List.map_cons,TL,if_true]
     cases kd with
     | pure =>
       obtain ⟨v,h1,h2⟩:=h
       obtain ⟨tr,X,g1,g2,g3,g4,g5⟩:=ih _ _ _ (k+1) h2
       refine ⟨v::tr,X,by simp [g1],g2,g3,fun i p kd u hi hu=>?_,by rw [tlt];exact g5⟩
       cases i with
       | zero =>
         simp only [List.getElem?_cons_zero,Option.some.injEq,Prod.mk.injEq] at hi hu
         obtain ⟨rfl,rfl⟩:=hi;subst hu
         rw [tl0]
         simp only [List.take_zero,gY,Nat.add_zero,Q0]
         rw [pQ (by simp)]
         simpa using h1
       | succ i =>
         rw [tls]
         exact g4 i p kd u (by simpa using hi) (by simpa using hu)
     | read n f =>
       obtain ⟨v,h1,h2⟩:=h
       obtain ⟨tr,X,g1,g2,g3,g4,g5⟩:=ih _ _ _ (k+1) h2
       have hk:∀ y∈H,y∈PR f o T v H:=fun y hy=>by
         unfold PR;split
         · exact hy
         · exact List.mem_cons_of_mem _ hy
       refine ⟨v::tr,X,by simp [g1],g2,fun y hy=>g3 y (hk y hy),fun i p kd u hi hu=>?_,by rw [tlt];exact g5⟩
       cases i with
       | zero =>
         simp only [List.getElem?_cons_zero,Option.some.injEq,Prod.mk.injEq] at hi hu
         obtain ⟨rfl,rfl⟩:=hi;subst hu
         rw [tl0]
         simp only [List.take_zero,gY,Nat.add_zero,Q0]
         intro m m1 m2 m3
         rcases Nat.lt_or_ge m (L::Ls).length with m4|m4
         · rw [pQ m4]
           refine h1 _ ?_
           have m5:(L::Ls).length - 1 - m<(L::Ls).length:=by omega
           rw [List.getD_eq_getElem?_getD,List.getElem?_eq_getElem m5,Option.getD_some]
           rw [List.mem_take_iff_getElem]
           refine ⟨(L::Ls).length - 1 - m,?_,rfl⟩
           simp only [List.length_cons] at m1 m4 m5 ⊢
           omega
         · cases f with
           | zero=>simp only [List.length_cons] at m2 m4;omega
           | succ f=>exact g3 (f+1,o,T,v) (by simp [PR]) m m4 (by simp only [List.length_cons] at m2 m4 ⊢;omega) m3
       | succ i =>
         rw [tls]
         exact g4 i p kd u (by simpa using hi) (by simpa using hu)
     | eff =>
       obtain ⟨v,L2,h1,hr,h2⟩:=h
       obtain ⟨tr,X,g1,g2,g3,g4,g5⟩:=ih _ _ _ (k+1) h2
       have e:(X++[L2])++(L::Ls)=X++(L2::L::Ls):=by simp
       refine ⟨v::tr,X++[L2],by simp [g1],by simp [gY,g2],fun y hy m m1 m2 m3=>?_,fun i p kd u hi hu=>?_,by rw [tlt,e];exact g5⟩
       · rw [e] at m3 ⊢
         rcases Nat.eq_or_lt_of_le m1 with m4|m4
         · subst m4
           rw [pQ (by simp)]
           have:=Ni hr y hy
           simpa using this
         · exact g3 _ (Im hy (by omega)) m (by simp only [List.length_cons] at m4 ⊢;omega) (by simp only [List.length_cons] at m2 ⊢;omega) m3
       rw [e]
       cases i with
       | zero =>
         simp only [List.getElem?_cons_zero,Option.some.injEq,Prod.mk.injEq] at hi hu
         obtain ⟨rfl,rfl⟩:=hi;subst hu
         rw [tl0]
         simp only [List.take_zero,gY,Nat.add_zero,Q0]
         rw [pQ (by simp only [List.length_cons];omega),pQ (by simp only [List.length_cons];omega)]
         simpa using h1
       | succ i =>
         rw [tls]
         have:=g4 i p kd u (by simpa using hi) (by simpa using hu)
         have e2:(L2::L::Ls).length - 1+gY (qk.take i)=(L::Ls).length - 1+gY (((o,Kd.eff)::qk).take (i+1)):=by
           simp only [List.length_cons,List.take_succ_cons,gY];omega
         rw [e2] at this
         exact this
def LOp.pureB:LOp→Bool
 | .mv _ | .pick .. | .build .. | .bin .. | .un .. | .faddr .. | .extract .. | .mkfn .. | .conv .. | .sconv .. | .eqk .. | .eq2 ..=>true
 | _=>false
theorem U5 {P:Program} {o:ad} {T:Tm} {L L':List Blk} {v:AV} (hp:o.op.pureB=true) (h:AQ P o T L v):AQ P o T L' v:=by
 have key:∀ {c:Prop} {av:AV} {L2:List Blk},an T L o.op=some (c,av,L2)→an T L' o.op=some (c,av,L'):=fun {c av L2} he=>by
   have e:an T L' o.op=(an T L o.op).map fun x=>(x.1,x.2.1,L'):=by
     obtain ⟨d,op,g⟩:=o
     cases op<;>simp only [LOp.pureB,Bool.false_eq_true] at hp<;>simp only [an]<;>(repeat' split)<;>simp [Option.map_map,Function.comp_def]
   rw [e,he];rfl
 have hv:AQv P o T L v→AQv P o T L' v:=fun hv=>by
   unfold AQv at hv ⊢
   obtain ⟨d,op,g⟩:=o
   cases op<;>simp only [LOp.pureB,Bool.false_eq_true] at hp<;>simp only at hv ⊢<;>(
     split at hv
     · rename_i c av L2 he
       rw [key he];exact ⟨hv.1,hv.2.1,rfl⟩
     · exact hv.elim)
 unfold AQ at h ⊢
 split at h
 · exact hv h
 · split at h
   · split at h
     · rename_i e;rw [if_pos e];exact hv h
     · rename_i e;rw [if_neg e];exact h
   · exact h
   · exact h.elim
def cr:List (ad×Kd)→Nat→List Nat
 | [],_=>[]
 | (_,.eff)::r,k=>k::cr r (k+1)
 | _::r,k=>cr r (k+1)
theorem ij:∀ (qk:List (ad×Kd)) (k:Nat),(cr qk k).length=gY qk
 | [],_=>rfl
 | (_,.pure)::r,k=>ij r (k+1)
 | (_,.read _ _)::r,k=>ij r (k+1)
 | (_,.eff)::r,k=>by simp [cr,gY,ij r (k+1)]
theorem LM:∀ (qk:List (ad×Kd)) (k i:Nat) (o:ad),qk[i]?=some (o,.eff)→(cr qk k)[gY (qk.take i)]?=some (k+i)
 | [],_,i,o,h=>by simp at h
 | (p,kd)::r,k,0,o,h=>by
   simp only [List.getElem?_cons_zero,Option.some.injEq,Prod.mk.injEq] at h
   obtain ⟨rfl,rfl⟩:=h
   simp [cr,gY]
 | (p,kd)::r,k,i+1,o,h=>by
   have ih:=LM r (k+1) i o (by simpa using h)
   rw [show k+1+i=k+(i+1) by omega] at ih
   cases kd<;>simpa [cr,gY] using ih
theorem LL:∀ (qk:List (ad×Kd)) (k e:Nat),e∈cr qk k→∃ i o,e=k+i∧qk[i]?=some (o,.eff)
 | [],_,e,h=>by simp [cr] at h
 | (p,kd)::r,k,e,h=>by
   have go:e∈cr r (k+1)→∃ i o,e=k+i∧((p,kd)::r)[i]?=some (o,.eff):=fun h'=>by
     obtain ⟨i,o,rfl,h2⟩:=LL r (k+1) e h'
     exact ⟨i+1,o,by omega,by simpa using h2⟩
   cases kd with
   | pure=>exact go h
   | read _ _=>exact go h
   | eff =>
     rcases List.mem_cons.1 h with rfl|h
     · exact ⟨0,p,rfl,rfl⟩
     · exact go h
def Lu (tbl:List Nat) (qk:List (ad×Kd)):Bool :=
 let es:=cr qk 0
 ((List.range es.length).all fun j'=>(List.range j').all fun j=>(tbl.getD (es.getD j' 0) 0).testBit (es.getD j 0)) &&
 qk.zipIdx.all fun ((o,kd),i)=>match kd with
   | .pure=>o.op.pureB
   | .eff=>true
   | .read n f=>let c:=gY (qk.take i)
     (List.range es.length).all fun j=>(!decide (j<c - n) || (tbl.getD i 0).testBit (es.getD j 0)) && (!decide (c+f≤j) || (tbl.getD (es.getD j 0) 0).testBit i)
section
variable {P:Program} {w0:World} {S0:Nat→Prop} {N:Nat} {own:Nat→Nat} {ops:Array Oper} {L:List Blk}
theorem Pd {los:List ad} {n:Nat} (hlow:bS P N own ops (List.range ops.size)=some los) (hok:F2 ops los n=true) {qk:List (ad×Kd)} {ts:List ad} (hsplit:los=qk.map (·.1)++ts) (hn:qk.length=n)
   (hk:Lu (jA ops.toList []) qk=true) {K:Tm→List Blk→Prop} {T:Tm} {Q:Exit→Act→World→Prop} {E0:Env} (h:AG P (ic P K ts) qk [L] [] T)
   (hQ:∀ E' T' L' a' w',E0.le E'→K T' L'→St w0 S0 N E' T' L' a' w'→Q .normal a' w') (a:Act) (w:World) (E:Env) (hE:E0.le E) (hst:St w0 S0 N E T L a w) :
   wpAny P .any ops Q ops.size (Array.replicate ops.size false) a w:=by
 obtain ⟨tr,X,g1,g2,-,g4,g5⟩:=UA qk [L] [] T 0 h
 have rep0:∀ i,(Array.replicate ops.size false).getD i false=false:=fun i=>by
   rw [Array.getD_eq_getD_getElem?,Array.getElem?_replicate]
   split<;>rfl
 simp only [Lu,Bool.and_eq_true] at hk
 obtain ⟨hk1,hk2⟩:=hk
 have hesl:=ij qk 0
 have hlt:∀ e∈cr qk 0,∃ o,qk[e]?=some (o,.eff):=fun e he=>by
   obtain ⟨i,o,rfl,h2⟩:=LL qk 0 e he
   exact ⟨o,by simpa using h2⟩
 have hlen:(X++[L]).length=gY qk+1:=by simp [g2]
 refine Qf (T:=T) (K:=K) (qs:=qk.map (·.1)) (ts:=ts) (tr:=tr) (es:=cr qk 0) (Ms:=mem (X++[L])) hlow hok hsplit (by simpa using hn) (fun e he=>?_) (fun j j' e e' h1 h2 h3=>?_) (by simpa using g1) (fun i o v ho hv=>?_) ?_ hQ ops.size _ a w E (by simp) (by simp [List.count_replicate]) (fun i o hi=>by rw [rep0] at hi;cases hi) hE (fun i _=>rep0 i) ?_
 · obtain ⟨o,ho⟩:=hlt e he
   simpa using (List.getElem?_eq_some_iff.1 ho).1
 · have l2:j'<(cr qk 0).length:=(List.getElem?_eq_some_iff.1 h2).1
   have:=List.all_eq_true.1 (List.all_eq_true.1 hk1 j' (by simpa using l2)) j (by simpa using h3)
   have q1:(cr qk 0).getD j 0=e:=by rw [List.getD_eq_getElem?_getD,h1];rfl
   have q2:(cr qk 0).getD j' 0=e':=by rw [List.getD_eq_getElem?_getD,h2];rfl
   rw [q1,q2] at this
   exact this
 · rw [List.getElem?_map,Option.map_eq_some_iff] at ho
   obtain ⟨⟨o',kd⟩,ho,rfl⟩:=ho
   have hs:=g4 i o' kd v ho hv
   simp only [List.length_singleton,Nat.sub_self,Nat.zero_add] at hs
   have hkk:=List.all_eq_true.1 hk2 ((o',kd),i) (by rw [List.mem_zipIdx_iff_getElem?];simpa using ho)
   have notin:kd ≠ .eff→i ∉ cr qk 0:=fun hne he=>by
     obtain ⟨o2,h2⟩:=hlt i he
     rw [ho] at h2;cases h2;exact hne rfl
   cases kd with
   | eff =>
     refine .inl ⟨gY (qk.take i),?_,hs⟩
     simpa using LM qk 0 i o' ho
   | pure=>exact .inr ⟨notin (by simp),fun m _ _ _=>U5 (by simpa using hkk) hs⟩
   | read n f =>
     refine .inr ⟨notin (by simp),fun m hm p1 p2=>?_⟩
     simp only at hkk
     have chk:=fun j (hj:j<(cr qk 0).length)=>List.all_eq_true.1 hkk j (by simpa using hj)
     have cle:gY (qk.take i)≤(cr qk 0).length:=by
       have:∀ (l:List (ad×Kd)) (i:Nat),gY (l.take i)≤gY l:=by
         intro l
         induction l with
         | nil=>intro i;simp
         | cons q l ih =>
           intro i
           cases i with
           | zero=>simp [gY]
           | succ i=>obtain ⟨o,_|_|_⟩:=q<;>simp only [List.take_succ_cons,gY]<;>have:=ih i<;>omega
       rw [hesl];exact this qk i
     refine hs m ?_ ?_ (by rw [hlen];omega)
     · rcases Nat.lt_or_ge m (gY (qk.take i) - n) with hlt2|hge
       · have hme:m<(cr qk 0).length:=by omega
         have:=chk m hme
         simp only [Bool.and_eq_true,Bool.or_eq_true,Bool.not_eq_true',decide_eq_false_iff_not] at this
         have e1:=p2 m _ (List.getElem?_eq_getElem hme) (Nat.le_refl _)
         rcases this.1 with c|c
         · exact absurd hlt2 c
         · rw [List.getD_eq_getElem?_getD (l:=cr qk 0),List.getElem?_eq_getElem hme] at c
           simp only [Option.getD_some] at c
           rw [e1] at c;cases c
       · exact hge
     · rcases Nat.lt_or_ge (gY (qk.take i)+f) m with hlt2|hge
       · have hme:gY (qk.take i)+f<(cr qk 0).length:=by omega
         have:=chk _ hme
         simp only [Bool.and_eq_true,Bool.or_eq_true,Bool.not_eq_true',decide_eq_false_iff_not] at this
         have e1:=p1 _ _ (List.getElem?_eq_getElem hme) hlt2
         rcases this.2 with c|c
         · exact absurd (Nat.le_refl _) c
         · rw [List.getD_eq_getElem?_getD (l:=cr qk 0),List.getElem?_eq_getElem hme] at c
           simp only [Option.getD_some] at c
           rw [e1] at c;cases c
       · exact hge
 · rw [hlen] at g5
   rw [hesl]
   simpa using g5
 · have e:TL T (qk.map (·.1)) tr 0 (fun j=>(Array.replicate ops.size false).getD j false)=T:=by
     refine Eq.trans (Mj (g:=fun _=>false) fun j _=>rep0 _) (Ph _ tr T 0)
   have e2:done (cr qk 0) (Array.replicate ops.size false)=0:=List.countP_eq_zero.2 fun x _=>by rw [rep0];simp
   rw [e,e2,pQ (by simp)]
   simpa using hst
end
inductive SOp where
 | op (o:ad)
 | grp (g:Option (Nat×Bool)) (t:Nat) (b:Bool) (body:List SOp) (d:Nat) (x:Opd)
 deriving Inhabited
def cH (g:Option (Nat×Bool)) (t:Nat) (b:Bool) (d:Nat) (x:Opd):ad :=
 ⟨some d,.pick (.tmp t) (if b then x else .av (.bool true)) (if b then .av (.bool false) else x),g⟩
mutual
def SOp.flat:SOp→List ad
 | .op o=>[o]
 | .grp g t b body d x=>SOp.flatL body++[cH g t b d x]
def SOp.flatL:List SOp→List ad
 | []=>[]
 | s::r=>SOp.flat s++SOp.flatL r
end
def bj (l:List ad):List Nat:=l.filterMap (·.dst)
def gds:List SOp→List Nat
 | []=>[]
 | .op _::r=>gds r
 | .grp _ _ _ body _ _::r=>bj (SOp.flatL body)++gds r
def bV:SOp→List Nat
 | .op o=>o.dst.toList
 | .grp _ _ _ _ d _=>[d]
mutual
def okO (g:Nat×Bool) (seen:List Nat):SOp→Bool
 | .op o=>decide (o.guard=some g)
 | .grp g' t b body d x=>decide (g'=some g) && seen.contains t && !(bj (SOp.flatL body)).contains t && !(bj (SOp.flatL body)).contains g.1 && okB (t,b) [] body
def okB (g:Nat×Bool) (seen:List Nat):List SOp→Bool
 | []=>true
 | s::r=>okO g seen s && (bV s).all (fun d => !(gds r).contains d && d != g.1) && okB g (bV s++seen) r
end
def okS:List SOp→Bool
 | []=>true
 | .op o::r=>o.dst.toList.all (fun d => !(gds r).contains d) && okS r
 | .grp g t b body d x::r=>decide (g=none) && !(bj (SOp.flatL body)).contains t && okB (t,b) [] body && !(gds r).contains d && okS r
def mrg (b p q:Bool):Bool:=if b then p && q else p || q
def Uw (P:Program) (f:FuncId) (args:List AV) (L:List Blk) (k:AV→Prop):Prop:=∃ v,ao P f args L (fun av L'=>av=v∧L'=L)∧k v
theorem aB {P:Program} {f:FuncId} {args:List AV} {L:List Blk} {k:AV→Prop} {v:AV} (h:ao P f args L (fun av L'=>av=v∧L'=L)) (hk:k v):Uw P f args L k:=⟨v,h,hk⟩
def IsB:Option AV→Bool→Prop:=fun o q=>o=some (.bool q)
theorem aP {q:Bool}:IsB (some (.bool q)) q:=rfl
def IsX (x:Opd) (q:Bool) (T:Tm):Prop:=IsB (evX T x) q
def Uq (k:Tm→Prop) (d:Option Nat) (T:Tm) (v:AV):Prop:=k (bU d v T)
def Xh (P:Program) (f:FuncId) (L:List Blk) (k:AV→Prop):Option (List AV)→Prop
 | some args=>Uw P f args L k
 | none=>False
def Q3 (P:Program) (L:List Blk) (k:AV→Prop):Option AV→Option (List AV)→Prop
 | some (.func g caps),some args=>Uw P g (args++caps) L k
 | _,_=>False
def Xd (L:List Blk) (k:AV→Prop):Option (Prop×AV×List Blk)→Prop
 | some (c,av,L')=>c∧L'=L∧k av
 | none=>False
def GOp (P:Program) (L:List Blk) (o:ad) (k:Tm→Prop) (T:Tm):Prop :=
 match o.op with
 | .call f xs=>Xh P f L (Uq k o.dst T) (fw T xs)
 | .callv f xs=>Q3 P L (Uq k o.dst T) (evX T f) (fw T xs)
 | lo=>Xd L (Uq k o.dst T) (an T L lo)
mutual
def GL (P:Program) (L:List Blk):List SOp→(Tm→Prop)→Tm→Prop
 | [],k,T=>k T
 | s::r,k,T=>GO P L s (GL P L r k) T
def GO (P:Program) (L:List Blk):SOp→(Tm→Prop)→Tm→Prop
 | .op o,k,T=>GOp P L o k T
 | .grp _ t b body d x,k,T=>match aM T t with
   | some (.bool p)=>∃ q,(p=b→GL P L body (IsX x q) T)∧k ((d,.bool (mrg b p q))::T)
   | _=>False
end
def GQ (P:Program) (L:List Blk) (b:Bool) (body:List SOp) (d:Nat) (x:Opd) (k:Tm→Prop) (T:Tm) (p:Bool):Prop :=
 ∃ q,(p=b→GL P L body (IsX x q) T)∧k ((d,.bool (mrg b p q))::T)
def GG (P:Program) (L:List Blk) (b:Bool) (body:List SOp) (d:Nat) (x:Opd) (k:Tm→Prop) (T:Tm):Option AV→Prop
 | some (.bool p)=>GQ P L b body d x k T p
 | _=>False
theorem WE {P:Program} {L:List Blk} {k:Tm→Prop} {T:Tm}:GL P L [] k T=k T:=by rw [GL]
theorem Xg {P:Program} {L:List Blk} {o:ad} {r:List SOp} {k:Tm→Prop} {T:Tm}:GL P L (.op o::r) k T=GOp P L o (GL P L r k) T:=by rw [GL,GO]
theorem WF {P:Program} {L:List Blk} {g:Option (Nat×Bool)} {t d:Nat} {b:Bool} {body r:List SOp} {x:Opd} {k:Tm→Prop} {T:Tm}:GL P L (.grp g t b body d x::r) k T=GG P L b body d x (GL P L r k) T (aM T t):=by
 rw [GL,GO];rfl
theorem VF {P:Program} {L:List Blk} {d:Nat} {b p:Bool} {body:List SOp} {x:Opd} {k:Tm→Prop} {T:Tm}:GG P L b body d x k T (some (.bool p))=GQ P L b body d x k T p:=rfl
theorem Xf {P:Program} {L:List Blk} {d:Nat} {body:List SOp} {x:Opd} {k:Tm→Prop} {T:Tm}:GQ P L true body d x k T false=k ((d,.bool false)::T):=by simp [GQ,mrg]
theorem Xe {P:Program} {L:List Blk} {d:Nat} {body:List SOp} {x:Opd} {k:Tm→Prop} {T:Tm}:GQ P L false body d x k T true=k ((d,.bool true)::T):=by simp [GQ,mrg]
def SL (P:Program):List SOp→(Tm→List Blk→Prop)→Tm→List Blk→Prop
 | [],K,T,L=>K T L
 | .op o::r,K,T,L=>match o.guard with
   | none=>AOp P o (SL P r K) T L
   | some (t,b)=>Grd P o (SL P r K) b T L (aM T t)
 | .grp _ t b body d x::r,K,T,L=>GG P L b body d x (fun T'=>SL P r K T' L) T (aM T t)
def SK (P:Program) (r:List SOp) (K:Tm→List Blk→Prop) (L:List Blk) (T:Tm):Prop:=SL P r K T L
theorem Xa {P:Program} {r:List SOp} {K:Tm→List Blk→Prop} {L:List Blk} {T:Tm}:SK P r K L T=SL P r K T L:=rfl
theorem Wz {P:Program} {K:Tm→List Blk→Prop} {L:List Blk} {T:Tm}:SL P [] K T L=K T L:=rfl
theorem W9 {P:Program} {d:Option Nat} {op:LOp} {r:List SOp} {K:Tm→List Blk→Prop} {L:List Blk} {T:Tm}:SL P (.op ⟨d,op,none⟩::r) K T L=AOp P ⟨d,op,none⟩ (SL P r K) T L:=rfl
theorem Wy {P:Program} {d:Option Nat} {op:LOp} {t:Nat} {b:Bool} {r:List SOp} {K:Tm→List Blk→Prop} {L:List Blk} {T:Tm}:SL P (.op ⟨d,op,some (t,b)⟩::r) K T L=Grd P ⟨d,op,some (t,b)⟩ (SL P r K) b T L (aM T t):=rfl
theorem WA {P:Program} {g:Option (Nat×Bool)} {t d:Nat} {b:Bool} {body r:List SOp} {x:Opd} {K:Tm→List Blk→Prop} {L:List Blk} {T:Tm}:SL P (.grp g t b body d x::r) K T L=GG P L b body d x (SK P r K L) T (aM T t):=rfl
def sel:List Bool→Tm→Tm
 | [],T=>T
 | true::m,x::T=>x::sel m T
 | false::m,_::T=>sel m T
 | _::_,[]=>[]
theorem Qv {T:Tm}:sel [] T=T:=by cases T<;>rfl
theorem VK {m:List Bool} {x:Nat×AV} {T:Tm}:sel (true::m) (x::T)=x::sel m T:=rfl
theorem VL {m:List Bool} {x:Nat×AV} {T:Tm}:sel (false::m) (x::T)=sel m T:=rfl
section
variable {P:Program} {w0:World} {S0:Nat→Prop} {N:Nat}
def Fr (ds:List Nat) (T:Tm):Prop:=∀ d∈ds,aM T d=none
theorem iF {d:Option Nat} {v:AV} {T:Tm} {t:Nat} (h:d≠some t):aM (bU d v T) t=aM T t:=by
 cases d with
 | none=>rfl
 | some d=>simp only [bU,aM];rw [if_neg (fun e=>h (by rw [e]))]
theorem fa {own:Nat→Nat} {ops:Array Oper}:∀ {l m:List ad} {is:List Nat},bS P N own ops is=some (l++m)→∃ js ks,is=js++ks∧bS P N own ops js=some l∧bS P N own ops ks=some m
 | [],m,is,h=>⟨[],is,rfl,rfl,h⟩
 | o::l,m,is,h=>by
   cases is with
   | nil=>simp [bS] at h
   | cons i is =>
     simp only [bS] at h
     split at h<;>try cases h
     rename_i o' m' h1 h2
     obtain ⟨js,ks,rfl,h3,h4⟩:=fa (l:=l) (m:=m) h2
     refine ⟨i::js,ks,rfl,?_,h4⟩
     simp only [bS,h1,h3]
theorem gZ {own:Nat→Nat} {ops:Array Oper} {o:ad} {is:List Nat} (h:bS P N own ops is=some [o]):∃ i,is=[i]∧ii P N own ops i=some o:=by
 cases is with
 | nil=>simp [bS] at h
 | cons i is =>
   simp only [bS] at h
   split at h<;>try cases h
   rename_i o' m' h1 h2
   cases is with
   | nil=>exact ⟨i,rfl,h1⟩
   | cons j is =>
     simp only [bS] at h2
     split at h2<;>cases h2
theorem KB {own:Nat→Nat} {ops:Array Oper} {K:Tm→List Blk→Prop} {Q:Exit→Act→World→Prop} {i:Nat} {lo:ad} {rest:List Nat} (hl:ii P N own ops i=some lo)
   {T:Tm} {L:List Blk} {E:Env} {a:Act} {w:World} (hst:St w0 S0 N E T L a w) (hg:lo.guard=none∨∃ t b,lo.guard=some (t,b)∧aM T t=some (.bool b))
   (h:AOp P lo K T L) (hK:∀ E' T' L' a' w',E.le E'→K T' L'→St w0 S0 N E' T' L' a' w'→wpOps P ops Q rest a' w'):wpOps P ops Q (i::rest) a w:=by
 obtain ⟨o,ho,hop,hdst,hd,hg'⟩:=gf hl
 obtain ⟨ld,lop,lg⟩:=lo
 simp only at hop hdst hg' hg
 subst hdst
 simp only [wpOps,ho]
 have hw:Region.wanted o (yielded ops a.tmps)=true:=by
   rcases hg' with ⟨g1,g2⟩|⟨j,b,t,g1,g2,g3,g4⟩
   · simp [Region.wanted,g1]
   · subst g4
     rcases hg with hg|⟨t',b',e,hx⟩
     · cases hg
     · cases e
       have hy:=fT (E:=E) (T:=T) (a:=a) (ops:=ops) hst.2.1 g2 (by rw [hst.2.2.1];exact g3)
       simp [Region.wanted,g1,hy.1 b hx]
 rw [if_pos hw]
 exact .inl (Dg hop hd hst h hK)
theorem Le {own:Nat→Nat} {ops:Array Oper} {Q:Exit→Act→World→Prop} {i:Nat} {lo:ad} {rest:List Nat} (hl:ii P N own ops i=some lo)
   {T:Tm} {L:List Blk} {E:Env} {a:Act} {w:World} (hst:St w0 S0 N E T L a w) {t:Nat} {b:Bool} (hg:lo.guard=some (t,b)) (hx:aM T t=some (.bool (!b))∨aM T t=some (.tup []))
   (hK:∀ a',St w0 S0 N E (bU lo.dst (.tup []) T) L a' w→wpOps P ops Q rest a' w):wpOps P ops Q (i::rest) a w:=by
 obtain ⟨o,ho,hop,hdst,hd,hg'⟩:=gf hl
 obtain ⟨ld,lop,lg⟩:=lo
 simp only at hop hdst hg' hg hK
 subst hdst
 simp only [wpOps,ho]
 have hw:Region.wanted o (yielded ops a.tmps)=false:=by
   rcases hg' with ⟨g1,g2⟩|⟨j,b',t',g1,g2,g3,g4⟩
   · rw [g2] at hg;cases hg
   · rw [g4] at hg;cases hg
     have hy:=fT (E:=E) (T:=T) (a:=a) (ops:=ops) hst.2.1 g2 (by rw [hst.2.2.1];exact g3)
     rcases hx with hx|hx
     · simp [Region.wanted,g1,hy.1 _ hx]
     · simp [Region.wanted,g1,hy.2 hx]
 rw [if_neg (by simp [hw])]
 exact hK _ (Gu hst hd)
def Ext (ds:List Nat) (T T':Tm):Prop:=∀ t v,t ∉ ds→aM T t=some v→aM T' t=some v
mutual
theorem V2 {own:Nat→Nat} {ops:Array Oper} {Q:Exit→Act→World→Prop} {L:List Blk} {E:Env} {w:World} (s:SOp) {g:Nat×Bool} {seen:List Nat} {is rest:List Nat} {T:Tm} {a:Act} (hok:okO g seen s=true) (hl:bS P N own ops is=some s.flat)
   (hst:St w0 S0 N E T L a w) (hx:aM T g.1=some (.bool (!g.2))∨aM T g.1=some (.tup [])) (hseen:∀ d∈seen,aM T d=some (.tup []))
   (hK:∀ T' a',Ext (bj s.flat) T T'→(∀ d,aM T d=some (.tup [])→aM T' d=some (.tup []))→(∀ d∈bV s,aM T' d=some (.tup []))→St w0 S0 N E T' L a' w→wpOps P ops Q rest a' w):wpOps P ops Q (is++rest) a w:=by
 have tup:∀ (d':Option Nat) (T:Tm) (d:Nat),aM T d=some (.tup [])→aM (bU d' (.tup []) T) d=some (.tup []):=fun d' T d h=>by
   cases d' with
   | none=>exact h
   | some d' =>
     simp only [bU,aM]
     split
     · rfl
     · exact h
 cases s with
 | op o =>
   simp only [SOp.flat] at hl hK
   obtain ⟨i,rfl,h1⟩:=gZ hl
   simp only [okO,decide_eq_true_eq] at hok
   refine Le h1 hst (t:=g.1) (b:=g.2) hok hx fun a' ha'=>hK _ a' (fun t v ht hv=>?_) (tup _ _) (fun d hd=>?_) ha'
   · rw [iF (fun e=>ht (by simp [bj,e]))];exact hv
   · simp only [bV,Option.mem_toList] at hd
     rw [hd];simp [bU,aM]
 | grp g' t b body d x =>
   simp only [okO,Bool.and_eq_true,decide_eq_true_eq,List.contains_iff_mem,Bool.not_eq_true',List.contains_eq_mem,decide_eq_false_iff_not] at hok
   obtain ⟨⟨⟨⟨hg',ht⟩,htb⟩,hgb⟩,hb⟩:=hok
   simp only [SOp.flat] at hl hK
   obtain ⟨js,ks,rfl,h1,h2⟩:=fa hl
   obtain ⟨i,rfl,h3⟩:=gZ h2
   rw [List.append_assoc]
   refine Kv body hb h1 hst (.inr (hseen t (by simpa using ht))) (by simp) fun T' a' hext htup hst'=>?_
   refine Le h3 hst' (t:=g.1) (b:=g.2) (by simp [cH,hg']) ?_ fun a'' hst''=>hK _ a'' (fun t v ht hv=>?_) (fun d hd=>tup _ _ _ (htup d hd)) (fun d hd=>?_) hst''
   · exact hx.imp (fun h=>hext _ _ hgb h) (fun h=>htup _ h)
   · rw [iF (fun e=>ht (by simp only [cH] at e;simp [bj,cH,e]))]
     exact hext t v (fun hm=>ht (by simp only [bj,List.filterMap_append,List.mem_append];exact .inl hm)) hv
   · simp only [bV,List.mem_singleton] at hd
     subst hd;simp [cH,bU,aM]
theorem Kv {own:Nat→Nat} {ops:Array Oper} {Q:Exit→Act→World→Prop} {L:List Blk} {E:Env} {w:World} (l:List SOp) {g:Nat×Bool} {seen:List Nat} {is rest:List Nat} {T:Tm} {a:Act} (hok:okB g seen l=true) (hl:bS P N own ops is=some (SOp.flatL l))
   (hst:St w0 S0 N E T L a w) (hx:aM T g.1=some (.bool (!g.2))∨aM T g.1=some (.tup [])) (hseen:∀ d∈seen,aM T d=some (.tup []))
   (hK:∀ T' a',Ext (bj (SOp.flatL l)) T T'→(∀ d,aM T d=some (.tup [])→aM T' d=some (.tup []))→St w0 S0 N E T' L a' w→wpOps P ops Q rest a' w):wpOps P ops Q (is++rest) a w:=by
 cases l with
 | nil =>
   simp only [SOp.flatL] at hl hK
   have:is=[]:=by
     cases is with
     | nil=>rfl
     | cons i is =>
       simp only [bS] at hl
       split at hl<;>cases hl
   subst this
   exact hK T a (fun _ _ _ h=>h) (fun _ h=>h) hst
 | cons s r =>
   simp only [okB,Bool.and_eq_true,List.all_eq_true,Bool.not_eq_true',bne_iff_ne] at hok
   obtain ⟨⟨h1,h2⟩,h3⟩:=hok
   simp only [SOp.flatL] at hl hK
   obtain ⟨js,ks,rfl,h4,h5⟩:=fa hl
   rw [List.append_assoc]
   refine V2 s h1 h4 hst hx hseen fun T' a' e1 e2 e3 hst'=>?_
   have hx':aM T' g.1=some (.bool (!g.2))∨aM T' g.1=some (.tup []):=by
     by_cases hm:g.1∈bj s.flat
     · cases s with
       | op o =>
         simp only [bj,SOp.flat,List.filterMap_cons,List.filterMap_nil] at hm
         cases hd:o.dst with
         | none=>simp [hd] at hm
         | some d =>
           simp [hd] at hm
           exact absurd hm.symm (h2 d (by simp [bV,hd])).2
       | grp g' t b body d x =>
         simp only [okO,Bool.and_eq_true,Bool.not_eq_true',List.contains_eq_mem,decide_eq_false_iff_not] at h1
         simp only [bj,SOp.flat,List.filterMap_append,List.mem_append] at hm
         rcases hm with hm|hm
         · exact absurd hm h1.1.2
         · simp [cH] at hm
           exact absurd hm.symm (h2 d (by simp [bV])).2
     · exact hx.imp (e1 _ _ hm) (e2 _)
   refine Kv r h3 h5 hst' hx' (fun d hd=>?_) fun T'' a'' f1 f2 hst''=>hK T'' a'' (fun t v ht hv=>?_) (fun d hd=>f2 d (e2 d hd)) hst''
   · rcases List.mem_append.1 hd with hd|hd
     · exact e3 d hd
     · exact e2 d (hseen d hd)
   · simp only [bj,List.filterMap_append,List.mem_append,not_or] at ht
     exact f1 t v ht.2 (e1 t v ht.1 hv)
end
theorem Fr.put {ds:List Nat} {T:Tm} {d:Option Nat} {v:AV} (h:Fr ds T) (hd:∀ k,d=some k→k ∉ ds):Fr ds (bU d v T):=fun k hk=>by
 rw [iF (fun e=>hd k e hk)];exact h k hk
mutual
theorem TQ (s:SOp):∀ d∈gds [s],d∈bj s.flat:=by
 cases s with
 | op o=>simp [gds]
 | grp g t b body d x =>
   intro u hu
   simp only [gds,List.append_nil] at hu
   simp only [SOp.flat,bj,List.filterMap_append,List.mem_append]
   exact .inl hu
end
theorem H8 (s:SOp) (r:List SOp):gds (s::r)=gds [s]++gds r:=by cases s<;>simp [gds]
theorem H7:∀ (l:List SOp),∀ d∈gds l,d∈bj (SOp.flatL l)
 | [],d,h=>by simp [gds] at h
 | s::r,d,h=>by
   rw [H8,List.mem_append] at h
   simp only [SOp.flatL,bj,List.filterMap_append,List.mem_append]
   exact h.imp (TQ s d) (H7 r d)
theorem Ox (s:SOp):∀ d∈bV s,d∈bj s.flat:=by
 cases s with
 | op o =>
   intro d hd
   simp only [bV,Option.mem_toList] at hd
   simp [SOp.flat,bj,hd]
 | grp g t b body d x =>
   intro u hu
   simp only [bV,List.mem_singleton] at hu
   subst hu
   simp [SOp.flat,bj,cH]
mutual
theorem Wm {own:Nat→Nat} {ops:Array Oper} {Q:Exit→Act→World→Prop} {L:List Blk} (s:SOp) {g:Nat×Bool} {seen:List Nat} {is rest:List Nat} {T:Tm} {a:Act} {E:Env} {w:World} {k:Tm→Prop} (hok:okO g seen s=true) (hl:bS P N own ops is=some s.flat)
   (hst:St w0 S0 N E T L a w) (hx:aM T g.1=some (.bool g.2)) (hfr:∀ d∈gds [s],aM T d=none) (h:GO P L s k T)
   (hK:∀ E' T' a' w',E.le E'→k T'→Ext (bV s) T T'→(∀ d,d ∉ bV s→aM T d=none→aM T' d=none)→St w0 S0 N E' T' L a' w'→wpOps P ops Q rest a' w'):wpOps P ops Q (is++rest) a w:=by
 cases s with
 | op o =>
   simp only [SOp.flat] at hl
   obtain ⟨i,rfl,h1⟩:=gZ hl
   simp only [okO,decide_eq_true_eq] at hok
   simp only [GO] at h
   have ext:∀ v,Ext (bV (.op o)) T (bU o.dst v T):=fun v t x ht hv=>by
     rw [iF (fun e=>ht (by simp [bV,e]))];exact hv
   have fre:∀ v d,d ∉ bV (.op o)→aM T d=none→aM (bU o.dst v T) d=none:=fun v d hd hn=>by
     rw [iF (fun e=>hd (by simp [bV,e]))];exact hn
   have hA:AOp P o (fun T' L'=>L'=L∧∃ v,T'=bU o.dst v T∧k T') T L:=by
     obtain ⟨d,op,gd⟩:=o
     have call:∀ {f:FuncId} {args:List AV},Uw P f args L (Uq k d T)→ao P f args L (Kon (fun T' L'=>L'=L∧∃ v,T'=bU d v T∧k T') d T):=fun {f args} ⟨v,h1,h2⟩ =>
       h1.mono fun av L' ⟨e1,e2⟩=>by subst e1;subst e2;exact ⟨rfl,av,rfl,h2⟩
     simp only [GOp] at h
     simp only [AOp]
     cases op
     case call f xs =>
       simp only at h ⊢
       cases he:fw T xs with
       | none=>rw [he] at h;exact h.elim
       | some args=>rw [he] at h;exact call h
     case callv f xs =>
       simp only at h ⊢
       cases hf:evX T f with
       | none=>rw [hf] at h;exact h.elim
       | some u =>
         rw [hf] at h
         cases he:fw T xs with
         | none=>rw [he] at h;cases u<;>exact h.elim
         | some args =>
           rw [he] at h
           cases u<;>simp only [Q3] at h
           exact call h
     all_goals
       simp only at h ⊢
       generalize an T L _=r at h ⊢
       cases r with
       | none=>exact h.elim
       | some r =>
         obtain ⟨c,av,L'⟩:=r
         exact ⟨h.1,h.2.1,av,rfl,h.2.2⟩
   refine KB h1 hst (.inr ⟨g.1,g.2,hok,hx⟩) hA fun E' T' L' a' w' hle ⟨e1,v,e2,hk⟩ hst'=>?_
   subst e1;subst e2
   exact hK E' _ a' w' hle hk (ext v) (fre v) hst'
 | grp g' t b body d x =>
   simp only [okO,Bool.and_eq_true,decide_eq_true_eq,Bool.not_eq_true',List.contains_eq_mem,decide_eq_false_iff_not] at hok
   obtain ⟨⟨⟨⟨hg',ht⟩,htb⟩,hgb⟩,hb⟩:=hok
   simp only [SOp.flat] at hl
   obtain ⟨js,ks,rfl,h1,h2⟩:=fa hl
   obtain ⟨i,rfl,h3⟩:=gZ h2
   rw [List.append_assoc]
   simp only [GO] at h
   have hfr':Fr (bj (SOp.flatL body)) T:=fun d' hd'=>hfr d' (by simp [gds,hd'])
   have fin:∀ {E':Env} {T':Tm} {a':Act} {w':World} (p q:Bool),E.le E'→St w0 S0 N E' T' L a' w'→Ext (bj (SOp.flatL body)) T T'→aM T t=some (.bool p)→(p=b→evX T' x=some (.bool q))→k ((d,.bool (mrg b p q))::T)→wpOps P ops Q ([i]++rest) a' w':=fun {E' T' a' w'} p q hle hst' hext hp hq hk=>by
     have hv:an T' L (.pick (.tmp t) (if b then x else .av (.bool true)) (if b then .av (.bool false) else x))=some (True,.bool (mrg b p q),L):=by
       have ht':aM T' t=some (.bool p):=hext _ _ htb hp
       cases b<;>cases p<;>simp [an,evX,ht',mrg]<;>exact hq rfl
     refine KB h3 hst' (.inr ⟨g.1,g.2,by simp [cH,hg'],hext _ _ hgb hx⟩) (K:=fun T'' L''=>T''=(d,.bool (mrg b p q))::T'∧L''=L) ?_ fun E'' T'' L'' a'' w'' hle' ⟨e1,e2⟩ hst''=>?_
     · simp only [cH,AOp,hv,Res,bU,and_self]
     · subst e1;subst e2
       refine hK E'' ((d,.bool (mrg b p q))::T) a'' w'' (hle.trans hle') hk (fun u v hu hv=>?_) (fun u hu hn=>?_) ⟨hst''.1,hst''.2.1.weak fun u v hu=>?_,hst''.2.2⟩
       · simp only [bV,List.mem_singleton] at hu
         simp only [aM];rw [if_neg (Ne.symm hu)];exact hv
       · simp only [bV,List.mem_singleton] at hu
         simp only [aM];rw [if_neg (Ne.symm hu)];exact hn
       · simp only [aM] at hu ⊢
         split
         · rename_i e;rw [if_pos e] at hu;exact hu
         · rename_i e
           rw [if_neg e] at hu
           refine hext u v (fun hm=>?_) hu
           rw [hfr' u hm] at hu;cases hu
   rcases hp:aM T t with _|u
   · rw [hp] at h;exact h.elim
   rw [hp] at h
   cases u<;>try exact h.elim
   rename_i p
   obtain ⟨q,hq,hk⟩:=h
   by_cases e:p=b
   · subst e
     refine NM body hb h1 hst hp (fun d hd=>hfr' d (H7 body d hd)) (hq rfl) fun E' T' a' w' hle hx' hext hst'=>fin p q hle hst' hext hp (fun _=>hx') hk
   · have:p = !b:=by cases p<;>cases b<;>simp_all
     refine Kv body hb h1 hst (.inl (by rw [hp,this])) (by simp) fun T' a' hext _ hst'=>fin p q (.refl E) hst' hext hp (fun e'=>absurd e' e) hk
theorem NM {own:Nat→Nat} {ops:Array Oper} {Q:Exit→Act→World→Prop} {L:List Blk} (l:List SOp) {g:Nat×Bool} {seen:List Nat} {is rest:List Nat} {T:Tm} {a:Act} {E:Env} {w:World} {k:Tm→Prop} (hok:okB g seen l=true) (hl:bS P N own ops is=some (SOp.flatL l))
   (hst:St w0 S0 N E T L a w) (hx:aM T g.1=some (.bool g.2)) (hfr:Fr (gds l) T) (h:GL P L l k T)
   (hK:∀ E' T' a' w',E.le E'→k T'→Ext (bj (SOp.flatL l)) T T'→St w0 S0 N E' T' L a' w'→wpOps P ops Q rest a' w'):wpOps P ops Q (is++rest) a w:=by
 cases l with
 | nil =>
   simp only [SOp.flatL] at hl
   have:is=[]:=by
     cases is with
     | nil=>rfl
     | cons i is =>
       simp only [bS] at hl
       split at hl<;>cases hl
   subst this
   rw [GL] at h
   exact hK E T a w (.refl E) h (fun _ _ _ h=>h) hst
 | cons s r =>
   simp only [okB,Bool.and_eq_true,List.all_eq_true,Bool.not_eq_true',bne_iff_ne,List.contains_eq_mem,decide_eq_false_iff_not] at hok
   obtain ⟨⟨h1,h2⟩,h3⟩:=hok
   simp only [SOp.flatL] at hl
   obtain ⟨js,ks,rfl,h4,h5⟩:=fa hl
   rw [List.append_assoc]
   rw [GL] at h
   rw [H8] at hfr
   refine Wm s h1 h4 hst hx (fun d hd=>hfr d (List.mem_append_left _ hd)) h fun E' T' a' w' hle hk' e1 e2 hst'=>?_
   refine NM r h3 h5 hst' (e1 _ _ (fun hm=>(h2 _ hm).2 rfl) hx) (fun d hd=>e2 d (fun hm=>(h2 d hm).1 hd) (hfr d (List.mem_append_right _ hd))) hk' fun E'' T'' a'' w'' hle' hk'' f1 hst''=>hK E'' T'' a'' w'' (hle.trans hle') hk'' (fun t v ht hv=>?_) hst''
   simp only [SOp.flatL,bj,List.filterMap_append,List.mem_append,not_or] at ht
   exact f1 t v ht.2 (e1 t v (fun hm=>ht.1 (Ox s t hm)) hv)
end
theorem VI {o:ad} {K:Tm→List Blk→Prop} {T:Tm} {L:List Blk} (h:AOp P o K T L):AOp P o (fun T' L'=>K T' L'∧∃ v,T'=bU o.dst v T) T L:=by
 obtain ⟨d,op,gd⟩:=o
 have call:∀ {f:FuncId} {args:List AV},ao P f args L (Kon K d T)→ao P f args L (Kon (fun T' L'=>K T' L'∧∃ v,T'=bU d v T) d T):=fun {f args} h=>h.mono fun av L' h=>⟨h,av,rfl⟩
 simp only [AOp] at h ⊢
 cases op
 case call f xs =>
   simp only at h ⊢
   cases he:fw T xs with
   | none=>rw [he] at h;exact h.elim
   | some args=>rw [he] at h;exact call h
 case callv f xs =>
   simp only at h ⊢
   cases hf:evX T f with
   | none=>rw [hf] at h;cases he:fw T xs<;>rw [he] at h<;>exact h.elim
   | some u =>
     rw [hf] at h
     cases he:fw T xs with
     | none=>rw [he] at h;cases u<;>exact h.elim
     | some args =>
       rw [he] at h
       cases u<;>simp only [Uu] at h
       exact call h
 all_goals
   simp only at h ⊢
   generalize an T L _=r at h ⊢
   cases r with
   | none=>exact h.elim
   | some r=>exact ⟨h.1,h.2,r.2.1,rfl⟩
theorem Gv {own:Nat→Nat} {ops:Array Oper} {Q:Exit→Act→World→Prop} {K:Tm→List Blk→Prop}:∀ (l:List SOp) {is:List Nat} {T:Tm} {L:List Blk} {a:Act} {E:Env} {w:World},okS l=true→bS P N own ops is=some (SOp.flatL l) →
   St w0 S0 N E T L a w→Fr (gds l) T→SL P l K T L→(∀ E' T' L' a' w',E.le E'→K T' L'→St w0 S0 N E' T' L' a' w'→Q .normal a' w')→wpOps P ops Q is a w
 | [],is,T,L,a,E,w,hok,hl,hst,hfr,h,hK=>by
   simp only [SOp.flatL] at hl
   have:is=[]:=by
     cases is with
     | nil=>rfl
     | cons i is =>
       simp only [bS] at hl
       split at hl<;>cases hl
   subst this
   exact hK E T L a w (.refl E) h hst
 | .op o::r,is,T,L,a,E,w,hok,hl,hst,hfr,h,hK=>by
   simp only [okS,Bool.and_eq_true,List.all_eq_true,Option.mem_toList,Bool.not_eq_true',List.contains_eq_mem,decide_eq_false_iff_not] at hok
   simp only [SOp.flatL,SOp.flat,List.singleton_append] at hl
   obtain ⟨js,ks,rfl,h1,h2⟩:=fa (l:=[o]) hl
   obtain ⟨i,rfl,h3⟩:=gZ h1
   have hfr':∀ v,Fr (gds r) (bU o.dst v T):=fun v=>Fr.put (ds:=gds r) hfr fun k hk=>hok.1 k hk
   have run:(o.guard=none∨∃ t b,o.guard=some (t,b)∧aM T t=some (.bool b))→AOp P o (SL P r K) T L→wpOps P ops Q ([i]++ks) a w:=fun hg h =>
     KB h3 hst hg (VI h) fun E' T' L' a' w' hle ⟨hs,v,e⟩ hst'=>by
       subst e
       exact Gv r hok.2 h2 hst' (hfr' v) hs fun E'' T'' L'' a'' w'' hle'=>hK E'' T'' L'' a'' w'' (hle.trans hle')
   have skip:∀ t b,o.guard=some (t,b)→(aM T t=some (.bool (!b))∨aM T t=some (.tup []))→SL P r K (bU o.dst (.tup []) T) L→wpOps P ops Q ([i]++ks) a w:=fun t b hg hx h =>
     Le h3 hst hg hx fun a' hst'=>Gv r hok.2 h2 hst' (hfr' _) h hK
   rw [SL] at h
   rcases hg:o.guard with _|⟨t,b⟩
   · rw [hg] at h
     exact run (.inl hg) h
   · rw [hg] at h
     simp only at h
     rcases hx:aM T t with _|u
     · rw [hx] at h;exact h.elim
     rw [hx] at h
     cases u<;>try exact h.elim
     · rename_i x
       rw [CT] at h
       by_cases e:x=b
       · rw [if_pos e] at h
         exact run (.inr ⟨t,b,hg,by rw [hx,e]⟩) h
       · rw [if_neg e] at h
         have:x = !b:=by cases x<;>cases b<;>simp_all
         exact skip t b hg (.inl (by rw [hx,this])) h
     · rename_i l
       cases l with
       | cons _ _=>exact h.elim
       | nil=>exact skip t b hg (.inr hx) h
 | .grp g t b body d x::r,is,T,L,a,E,w,hok,hl,hst,hfr,h,hK=>by
   simp only [okS,Bool.and_eq_true,decide_eq_true_eq,Bool.not_eq_true',List.contains_eq_mem,decide_eq_false_iff_not] at hok
   obtain ⟨⟨⟨⟨hg,htb⟩,hb⟩,hd⟩,hr⟩:=hok
   simp only [SOp.flatL,SOp.flat,List.append_assoc] at hl
   obtain ⟨js,ks',rfl,h1,h2⟩:=fa hl
   obtain ⟨is',ks,rfl,h2',h4⟩:=fa h2
   obtain ⟨i,rfl,h3⟩:=gZ h2'
   rw [SL] at h
   have hfr1:Fr (bj (SOp.flatL body)) T:=fun d' hd'=>hfr d' (by simp [gds,hd'])
   have hfr2:Fr (gds r) T:=fun d' hd'=>hfr d' (by simp [gds,hd'])
   have fin:∀ {E':Env} {T':Tm} {a':Act} {w':World} (p q:Bool),E.le E'→St w0 S0 N E' T' L a' w'→Ext (bj (SOp.flatL body)) T T'→aM T t=some (.bool p)→(p=b→evX T' x=some (.bool q))→SL P r K ((d,.bool (mrg b p q))::T) L→wpOps P ops Q ([i]++ks) a' w':=fun {E' T' a' w'} p q hle hst' hext hp hq hk=>by
     have hv:an T' L (.pick (.tmp t) (if b then x else .av (.bool true)) (if b then .av (.bool false) else x))=some (True,.bool (mrg b p q),L):=by
       have ht':aM T' t=some (.bool p):=hext _ _ htb hp
       cases b<;>cases p<;>simp [an,evX,ht',mrg]<;>exact hq rfl
     refine KB h3 hst' (.inl (by simp [cH,hg])) (K:=fun T'' L''=>T''=(d,.bool (mrg b p q))::T'∧L''=L) ?_ fun E'' T'' L'' a'' w'' hle' ⟨e1,e2⟩ hst''=>?_
     · simp only [cH,AOp,hv,Res,bU,and_self]
     · subst e1;subst e2
       refine Gv r hr h4 (T:=(d,.bool (mrg b p q))::T) ⟨hst''.1,hst''.2.1.weak fun u v hu=>?_,hst''.2.2⟩ (Fr.put (d:=some d) hfr2 fun k hk=>by cases hk;exact hd) hk fun E3 T3 L3 a3 w3 hle3=>hK E3 T3 L3 a3 w3 ((hle.trans hle').trans hle3)
       simp only [aM] at hu ⊢
       split
       · rename_i e;rw [if_pos e] at hu;exact hu
       · rename_i e
         rw [if_neg e] at hu
         refine hext u v (fun hm=>?_) hu
         rw [hfr1 u hm] at hu;cases hu
   rcases hp:aM T t with _|u
   · rw [hp] at h;exact h.elim
   rw [hp] at h
   cases u<;>try exact h.elim
   rename_i p
   obtain ⟨q,hq,hk⟩:=h
   by_cases e:p=b
   · subst e
     exact NM body hb h1 hst hp (fun d hd=>hfr1 d (H7 body d hd)) (hq rfl) fun E' T' a' w' hle hx' hext hst'=>fin p q hle hst' hext hp (fun _=>hx') hk
   · have:p = !b:=by cases p<;>cases b<;>simp_all
     exact Kv body hb h1 hst (.inl (by rw [hp,this])) (by simp) fun T' a' hext _ hst'=>fin p q (.refl E) hst' hext hp (fun e'=>absurd e' e) hk
end
theorem Vu {p b:Bool} (h:¬ p=b):p = !b:=by cases p<;>cases b<;>simp_all
mutual
def Nv (g:Option (Nat×Bool)) (seen D:List Nat):SOp→Bool
 | .op o=>decide (o.guard=g) && o.reads.all (fun t => !D.contains t)
 | .grp g' t b body d x=>decide (g'=g) && (g.isNone || seen.contains t) && !D.contains t && !(bj (SOp.flatL body)).contains t && (match g with|some g1 => !(bj (SOp.flatL body)).contains g1.1|none=>true) &&
     x.tmps.all (fun t => !(D++gds body).contains t) && okG (some (t,b)) [] D body
def okG (g:Option (Nat×Bool)) (seen D:List Nat):List SOp→Bool
 | []=>true
 | s::r=>Nv g seen D s && (bV s).all (fun d => !(D++gds [s]).contains d && !(gds r).contains d && (match g with|some g1=>d != g1.1|none=>true)) && okG g (bV s++seen) (D++gds [s]) r
end
section
variable {P:Program} {L:List Blk} {K:Tm→List Blk→Prop}
def AR (P:Program) (K:Tm→List Blk→Prop) (l:List ad) (L:List Blk) (T:Tm):Prop:=AG P K (l.map fun o=>(o,.read 0 0)) [L] [] T
theorem WO {T:Tm} (h:K T L):AR P K [] L T:=h
theorem KK {o:ad} {r:List ad} {T:Tm} {v:AV} (h1:AQ P o T L v) (h2:AR P K r L (bU o.dst v T)):AR P K (o::r) L T:=by
 refine ⟨v,fun L' hL'=>?_,h2⟩
 simp at hL'
 subst hL';exact h1
def Agr (D:List Nat) (T T1:Tm):Prop:=∀ t,t ∉ D→aM T1 t=aM T t
theorem Agr.put {D:List Nat} {T T1:Tm} (h:Agr D T T1) (d:Option Nat) (v:AV):Agr D (bU d v T) (bU d v T1):=fun t ht=>by
 cases d with
 | none=>exact h t ht
 | some d=>simp only [bU,aM];split;rfl;exact h t ht
theorem OI {d:Option Nat} {T:Tm} {t:Nat} (h:aM T t=some (.tup [])):aM (bU d (.tup []) T) t=some (.tup []):=by
 cases d with
 | none=>exact h
 | some d=>simp only [bU,aM];split;rfl;exact h
mutual
theorem VA (s:SOp) {g:Nat×Bool} {seen D:List Nat} {rest:List ad} {T:Tm} (hok:Nv (some g) seen D s=true) (hx:aM T g.1=some (.bool (!g.2))∨aM T g.1=some (.tup [])) (hseen:∀ d∈seen,aM T d=some (.tup []))
   (hK:∀ T',(∀ t,t ∉ bj s.flat→aM T' t=aM T t)→(∀ d,aM T d=some (.tup [])→aM T' d=some (.tup []))→(∀ d∈bV s,aM T' d=some (.tup []))→AR P K rest L T'):AR P K (s.flat++rest) L T:=by
 have skip:∀ (o:ad) (T:Tm),o.guard=some g→(aM T g.1=some (.bool (!g.2))∨aM T g.1=some (.tup []))→AQ P o T L (.tup []):=fun o T hg hx=>by
   obtain ⟨t,b⟩:=g
   simp only [AQ,hg]
   rcases hx with hx|hx<;>simp only at hx<;>rw [hx]<;>simp
 cases s with
 | op o =>
   simp only [Nv,Bool.and_eq_true,decide_eq_true_eq] at hok
   refine KK (skip o T hok.1 hx) (hK _ (fun t ht=>iF fun e=>ht (by simp [SOp.flat,bj,e])) (fun d hd=>OI hd) fun d hd=>?_)
   simp only [bV,Option.mem_toList] at hd
   rw [hd];simp [bU,aM]
 | grp g' t b body d x =>
   simp only [Nv,Bool.and_eq_true,decide_eq_true_eq,Option.isNone_some,Bool.false_or,Bool.not_eq_true',List.contains_eq_mem,decide_eq_false_iff_not] at hok
   obtain ⟨⟨⟨⟨⟨⟨hg',ht⟩,_⟩,htb⟩,hgb⟩,_⟩,hb⟩:=hok
   simp only [SOp.flat,List.append_assoc]
   refine Me body hb (.inr (hseen t (by simpa using ht))) (by simp) fun T' h1 h2=>?_
   refine KK (o:=cH g' t b d x) (v:=.tup []) (skip _ T' (by simp [cH,hg']) (by rw [h1 _ hgb];exact hx)) (hK _ (fun u hu=>?_) (fun u hu=>OI (h2 u hu)) fun u hu=>?_)
   · rw [iF (fun e=>hu (by simp only [cH] at e;simp [SOp.flat,bj,cH,e]))]
     exact h1 u fun hm=>hu (by simp only [SOp.flat,bj,List.filterMap_append,List.mem_append];exact .inl hm)
   · simp only [bV,List.mem_singleton] at hu
     subst hu;simp [cH,bU,aM]
theorem Me (l:List SOp) {g:Nat×Bool} {seen D:List Nat} {rest:List ad} {T:Tm} (hok:okG (some g) seen D l=true) (hx:aM T g.1=some (.bool (!g.2))∨aM T g.1=some (.tup [])) (hseen:∀ d∈seen,aM T d=some (.tup []))
   (hK:∀ T',(∀ t,t ∉ bj (SOp.flatL l)→aM T' t=aM T t)→(∀ d,aM T d=some (.tup [])→aM T' d=some (.tup []))→AR P K rest L T'):AR P K (SOp.flatL l++rest) L T:=by
 cases l with
 | nil=>exact hK T (fun _ _=>rfl) (fun _ h=>h)
 | cons s r =>
   simp only [okG,Bool.and_eq_true,List.all_eq_true,Bool.not_eq_true',bne_iff_ne] at hok
   obtain ⟨⟨h1,h2⟩,h3⟩:=hok
   simp only [SOp.flatL,List.append_assoc]
   refine VA s h1 hx hseen fun T' e1 e2 e3=>?_
   have hx':aM T' g.1=some (.bool (!g.2))∨aM T' g.1=some (.tup []):=by
     by_cases hm:g.1∈bj s.flat
     · cases s with
       | op o =>
         simp only [bj,SOp.flat,List.filterMap_cons,List.filterMap_nil] at hm
         cases hd:o.dst with
         | none=>simp [hd] at hm
         | some d =>
           simp [hd] at hm
           exact absurd hm.symm (h2 d (by simp [bV,hd])).2
       | grp g' t b body d x =>
         simp only [Nv,Bool.and_eq_true,Bool.not_eq_true',List.contains_eq_mem,decide_eq_false_iff_not] at h1
         simp only [bj,SOp.flat,List.filterMap_append,List.mem_append] at hm
         rcases hm with hm|hm
         · exact absurd hm h1.1.1.2
         · simp [cH] at hm
           exact absurd hm.symm (h2 d (by simp [bV])).2
     · exact hx.imp (fun h=>by rw [e1 _ hm];exact h) (e2 _)
   refine Me r h3 hx' (fun d hd=>?_) fun T'' f1 f2=>hK T'' (fun t ht=>?_) (fun d hd=>f2 d (e2 d hd))
   · rcases List.mem_append.1 hd with hd|hd
     · exact e3 d hd
     · exact e2 d (hseen d hd)
   · simp only [SOp.flatL,bj,List.filterMap_append,List.mem_append,not_or] at ht
     rw [f1 t ht.2,e1 t ht.1]
end
def HY (l:List SOp):List Nat:=l.flatMap bV
theorem MU:∀ (l:List SOp),∀ d∈HY l,d∈bj (SOp.flatL l)
 | [],d,h=>by simp [HY] at h
 | s::r,d,h=>by
   simp only [HY,List.flatMap_cons,List.mem_append] at h
   simp only [SOp.flatL,bj,List.filterMap_append,List.mem_append]
   exact h.imp (Ox s d) (MU r d)
theorem WD {o:ad} {k:Tm→Prop} {T:Tm} (h:GOp P L o k T):∃ v,AQv P o T L v∧k (bU o.dst v T):=by
 obtain ⟨d,op,gd⟩:=o
 simp only [GOp] at h
 unfold AQv
 cases op
 case call f xs =>
   simp only at h ⊢
   cases he:fw T xs with
   | none=>rw [he] at h;exact h.elim
   | some args=>rw [he] at h;obtain ⟨v,h1,h2⟩:=h;exact ⟨v,h1,h2⟩
 case callv f xs =>
   simp only at h ⊢
   cases hf:evX T f with
   | none=>rw [hf] at h;exact h.elim
   | some u =>
     rw [hf] at h
     cases he:fw T xs with
     | none=>rw [he] at h;cases u<;>exact h.elim
     | some args =>
       rw [he] at h
       cases u<;>simp only [Q3] at h
       obtain ⟨v,h1,h2⟩:=h
       exact ⟨v,h1,h2⟩
 all_goals
   simp only at h ⊢
   generalize an T L _=r at h ⊢
   cases r with
   | none=>exact h.elim
   | some r =>
     obtain ⟨c,av,L'⟩:=r
     exact ⟨av,⟨h.1,rfl,h.2.1⟩,h.2.2⟩
mutual
theorem Ws (s:SOp) {g:Option (Nat×Bool)} {seen D:List Nat} {rest:List ad} {T T1:Tm} {k:Tm→Prop} (hok:Nv g seen D s=true) (hx:∀ g1,g=some g1→g1.1 ∉ D∧aM T g1.1=some (.bool g1.2)) (hfr:∀ d∈gds [s],aM T d=none) (ha:Agr D T T1) (h:GO P L s k T)
   (hK:∀ T' T1',k T'→Agr (D++gds [s]) T' T1'→(∀ t,t ∉ bV s→aM T' t=aM T t)→AR P K rest L T1'):AR P K (s.flat++rest) L T1:=by
 cases s with
 | op o =>
   simp only [Nv,Bool.and_eq_true,decide_eq_true_eq,List.all_eq_true,Bool.not_eq_true',List.contains_eq_mem,decide_eq_false_iff_not] at hok
   simp only [GO] at h
   obtain ⟨v,h1,h2⟩:=WD h
   have hq:AQ P o T L v:=by
     unfold AQ
     rw [hok.1]
     cases g with
     | none=>exact h1
     | some g1 =>
       obtain ⟨t,b⟩:=g1
       have:=(hx _ rfl).2
       simp only at this ⊢
       rw [this];simp [h1]
   refine KK (hq.congr fun t ht=>(ha t (hok.2 t ht)).symm) (hK _ _ h2 (fun t ht=>?_) fun t ht=>iF fun e=>ht (by simp [bV,e]))
   exact (ha.put _ _) t fun hm=>ht (List.mem_append_left _ hm)
 | grp g' t b body d x =>
   simp only [Nv,Bool.and_eq_true,decide_eq_true_eq,List.all_eq_true,Bool.not_eq_true',List.contains_eq_mem,decide_eq_false_iff_not] at hok
   obtain ⟨⟨⟨⟨⟨⟨hg',_⟩,htD⟩,htb⟩,hgb⟩,hxD⟩,hb⟩:=hok
   simp only [GO] at h
   have hfr':∀ u∈bj (SOp.flatL body),aM T u=none:=fun u hu=>hfr u (by simp [gds,hu])
   have hgd:gds [SOp.grp g' t b body d x]=bj (SOp.flatL body):=by simp [gds]
   rw [hgd] at hK
   simp only [SOp.flat,List.append_assoc]
   have fin:∀ {T1b:Tm} (p q:Bool),aM T t=some (.bool p)→(∀ u,u ∉ D→u ∉ bj (SOp.flatL body)→aM T1b u=aM T u)→(p=b→evX T1b x=some (.bool q))→k ((d,.bool (mrg b p q))::T)→AR P K ([cH g' t b d x]++rest) L T1b:=fun {T1b} p q hp hT hq hk=>by
     have hv:an T1b L (.pick (.tmp t) (if b then x else .av (.bool true)) (if b then .av (.bool false) else x))=some (True,.bool (mrg b p q),L):=by
       have ht':aM T1b t=some (.bool p):=by rw [hT t htD htb];exact hp
       cases b<;>cases p<;>simp [an,evX,ht',mrg]<;>exact hq rfl
     have hqv:AQv P (cH g' t b d x) T1b L (.bool (mrg b p q)):=by
       simp only [AQv,cH,hv,and_self]
     have hq:AQ P (cH g' t b d x) T1b L (.bool (mrg b p q)):=by
       unfold AQ
       cases g with
       | none=>simp only [cH,hg'];exact hqv
       | some g1 =>
         obtain ⟨t1,b1⟩:=g1
         have h1:=hx _ rfl
         simp only [cH,hg']
         rw [show aM T1b t1=some (.bool b1) by rw [hT t1 h1.1 (by simpa using hgb)];exact h1.2]
         simp;exact hqv
     refine KK hq (hK ((d,.bool (mrg b p q))::T) _ hk (fun u hu=>?_) fun u hu=>?_)
     · simp only [List.mem_append,not_or] at hu
       simp only [cH,bU,aM]
       split
       · rfl
       · exact hT u hu.1 hu.2
     · simp only [bV,List.mem_singleton] at hu
       simp only [aM];rw [if_neg (Ne.symm hu)]
   rcases hp:aM T t with _|u
   · rw [hp] at h;exact h.elim
   rw [hp] at h
   cases u<;>try exact h.elim
   rename_i p
   obtain ⟨q,hq,hk⟩:=h
   by_cases e:p=b
   · subst e
     refine NZ body hb (fun g1 e=>by cases e;exact ⟨htD,hp⟩) (fun u hu=>hfr' u (H7 body u hu)) ha (hq rfl) fun Tb T1b hxb hab hTb=>fin p q hp (fun u h1 h2=>?_) (fun _=>?_) hk
     · rw [hab u (by simp only [List.mem_append,not_or];exact ⟨h1,fun hm=>h2 (H7 body u hm)⟩)]
       exact hTb u fun hm=>h2 (MU body u hm)
     · have hxb':evX Tb x=some (.bool q):=hxb
       rw [← hxb']
       cases x with
       | av a=>rfl
       | tmp t'=>exact hab t' (by have:=hxD t' (by simp [Opd.tmps]);simpa using this)
   · have:p = !b:=Vu e
     refine Me body hb (.inl (by show aM T1 t=_;rw [ha t htD,hp,this])) (by simp) fun T1b h1 _=>fin p q hp (fun u h2 h3=>?_) (fun e'=>absurd e' e) hk
     rw [h1 u h3,ha u h2]
theorem NZ (l:List SOp) {g:Option (Nat×Bool)} {seen D:List Nat} {rest:List ad} {T T1:Tm} {k:Tm→Prop} (hok:okG g seen D l=true) (hx:∀ g1,g=some g1→g1.1 ∉ D∧aM T g1.1=some (.bool g1.2)) (hfr:∀ d∈gds l,aM T d=none) (ha:Agr D T T1) (h:GL P L l k T)
   (hK:∀ T' T1',k T'→Agr (D++gds l) T' T1'→(∀ t,t ∉ HY l→aM T' t=aM T t)→AR P K rest L T1'):AR P K (SOp.flatL l++rest) L T1:=by
 cases l with
 | nil =>
   rw [GL] at h
   exact hK T T1 h (by simpa [gds] using ha) (fun _ _=>rfl)
 | cons s r =>
   simp only [okG,Bool.and_eq_true,List.all_eq_true,Bool.not_eq_true',List.contains_eq_mem,decide_eq_false_iff_not] at hok
   obtain ⟨⟨h1,h2'⟩,h3⟩:=hok
   have h2:∀ d∈bV s,d ∉ gds r:=fun d hd=>(h2' d hd).1.2
   simp only [SOp.flatL,List.append_assoc]
   rw [GL] at h
   rw [H8] at hfr hK
   refine Ws s h1 hx (fun d hd=>hfr d (List.mem_append_left _ hd)) ha h fun T' T1' hk e1 e2=>?_
   refine NZ r h3 (fun g1 hg=>?_) (fun d hd=>?_) e1 hk fun T'' T1'' hk' f1 f2=>hK T'' T1'' hk' (by rwa [List.append_assoc] at f1) fun t ht=>?_
   · subst hg
     have hne:g1.1 ∉ bV s:=fun hm=>by
       have:=(h2' _ hm).2
       simp at this
     have hng:g1.1 ∉ gds [s]:=fun hm=>by
       cases s with
       | op o=>simp [gds] at hm
       | grp g' t b body d x =>
         simp only [Nv,Bool.and_eq_true,Bool.not_eq_true',List.contains_eq_mem,decide_eq_false_iff_not] at h1
         simp only [gds,List.append_nil] at hm
         exact h1.1.1.2 hm
     have h4:=hx g1 rfl
     exact ⟨by simp only [List.mem_append,not_or];exact ⟨h4.1,hng⟩,by rw [e2 _ hne];exact h4.2⟩
   · rw [e2 d (fun hm=>h2 d hm hd)]
     exact hfr d (List.mem_append_right _ hd)
   · simp only [HY,List.flatMap_cons,List.mem_append,not_or] at ht
     rw [f2 t ht.2,e2 t ht.1]
end
theorem Oy:∀ (l:List SOp) {g:Option (Nat×Bool)} {seen D:List Nat},okG g seen D l=true→∀ t∈HY l,t ∉ D++gds l
 | [],_,_,_,_,t,h=>by simp [HY] at h
 | s::r,g,seen,D,hok,t,h=>by
   simp only [okG,Bool.and_eq_true,List.all_eq_true,Bool.not_eq_true',List.contains_eq_mem,decide_eq_false_iff_not] at hok
   obtain ⟨⟨h1,h2⟩,h3⟩:=hok
   rw [H8]
   simp only [HY,List.flatMap_cons,List.mem_append] at h
   rcases h with h|h
   · have:=(h2 t h).1
     simp only [List.mem_append,not_or] at this ⊢
     exact ⟨this.1.1,this.1.2,this.2⟩
   · have:=Oy r h3 t h
     simp only [List.mem_append,not_or] at this ⊢
     exact ⟨this.1.1,this.1.2,this.2⟩
theorem R7 {l:List SOp} {T:Tm} {k:Tm→Prop} (hok:okG none [] [] l=true) (hfr:Fr (gds l) T) (h:GL P L l k T):AR P (fun T1 L'=>L'=L∧∃ T',k T'∧∀ t v,aM T' t=some v→aM T1 t=some v) (SOp.flatL l) L T:=by
 have:=NZ (K:=fun T1 L'=>L'=L∧∃ T',k T'∧∀ t v,aM T' t=some v→aM T1 t=some v) (rest:=[]) l hok (fun _ e=>by cases e) hfr (T1:=T) (fun _ _=>rfl) h fun T' T1' hk e1 e2=>WO ⟨rfl,T',hk,fun t v hv=>?_⟩
 · simpa using this
 · by_cases hm:t∈gds l
   · by_cases ho:t∈HY l
     · exact absurd (by simpa using hm) (Oy l hok t ho)
     · rw [e2 t ho,hfr t hm] at hv;cases hv
   · rw [e1 t (by simpa using hm)];exact hv
end
section
variable {P:Program} {w0:World} {S0:Nat→Prop} {N:Nat}
inductive cc where
 | skip
 | sreg (sops:List SOp) (mask:List Bool)
 | sdreg (sops:List SOp) (kds:List Kd) (mask:List Bool)
 | dregM (qk:List (ad×Kd)) (ts:List ad) (mask:List Bool)
 | region (ops:List ad)
 | dregion (qk:List (ad×Kd)) (ts:List ad)
 | seq (a b:cc)
 | cond (c:Opd) (a b:cc)
 | block (id:Nat) (c:cc)
 | loop (c:cc)
 | exit (id:Nat)
 | ret
 deriving Inhabited
def cc.raw:cc→cc
 | .sreg s _=>.region (SOp.flatL s)
 | .dregM qk ts _=>.dregion qk ts
 | .sdreg s kds _=>.dregion ((SOp.flatL s).zip kds) ((SOp.flatL s).drop kds.length)
 | .seq a b=>.seq a.raw b.raw
 | .cond c a b=>.cond c a.raw b.raw
 | .block id c=>.block id c.raw
 | .loop c=>.loop c.raw
 | c=>c
def LOp.effB:LOp→Bool
 | .alloc _ | .box _ | .s2bO _ | .s2bG _ | .rangeS _ | .nextS _ | .store .. | .mkslice .. | .app .. | .appz .. | .copy .. | .clear .. | .mkmap | .mset .. | .mdel .. | .mrange _ | .mnext _=>true
 | .bslice own ..=>own
 | _=>false
def W2 (own:Nat→Nat) (i:Nat) (o:ad):Bool:=o.op.effB || own i == 3
def Wd (eff:Nat→ad→Bool) (tbl:List Nat) (es:List Nat) (i:Nat) (o:ad):Kd :=
 if o.op.pureB=true then .pure else if eff i o=true then .eff
 else .read (es.filter fun e=>decide (e<i) && !(tbl.getD i 0).testBit e).length (es.filter fun e=>decide (i<e) && !(tbl.getD e 0).testBit i).length
def ND (eff:Nat→ad→Bool) (tbl:List Nat) (qs:List ad):List (ad×Kd) :=
 let es:=(qs.zipIdx.filter fun p=>eff p.2 p.1).map (·.2)
 qs.zipIdx.map fun p=>(p.1,Wd eff tbl es p.2 p.1)
theorem OJ (eff:Nat→ad→Bool) (tbl:List Nat) (qs:List ad):(ND eff tbl qs).map (·.1)=qs:=by
 simp [ND,List.map_map,Function.comp_def]
def a8 (P:Program) (N:Nat) (own:Nat→Nat→Nat):Code→Option cc
 | .skip=>some .skip
 | .region id ops false=>(bS P N (own id) ops (List.range ops.size)).map .region
 | .region id ops true=>(bS P N (own id) ops (List.range ops.size)).bind fun los =>
   let n:=Nc (jA ops.toList []) 0 los.length
   let qk:=ND (W2 (own id)) (jA ops.toList []) (los.take n)
   if (F2 ops los n && decide (n≤los.length) && P.follows .mixedOrders && Lu (jA ops.toList []) qk)=true then some (.dregion qk (los.drop n)) else none
 | .seq a b=>match a8 P N own a,a8 P N own b with
   | some x,some y=>some (.seq x y)
   | _,_=>none
 | .cond c a b=>match br c,a8 P N own a,a8 P N own b with
   | some c,some x,some y=>some (.cond c x y)
   | _,_,_=>none
 | .block id c=>(a8 P N own c).map (.block id)
 | .loop c=>(a8 P N own c).map .loop
 | .exit id=>some (.exit id)
 | .ret=>some .ret
 | _=>none
def AW (P:Program) (N:Nat) (own:Nat→Nat→Nat) (lc:cc) (Q:Exit→Tm→List Blk→Prop) (T:Tm) (L:List Blk):Prop :=
 ∀ c,a8 P N own c=some lc.raw→∀ (w0:World) (S0:Nat→Prop) (E:Env) (a:Act) (w:World),St w0 S0 N E T L a w →
   c.wp P (fun e a' w'=>∃ E' T' L',E.le E'∧Q e T' L'∧St w0 S0 N E' T' L' a' w') a w
variable {own:Nat→Nat→Nat} {Q:Exit→Tm→List Blk→Prop} {T:Tm} {L:List Blk}
theorem AW.mono {lc:cc} {Q':Exit→Tm→List Blk→Prop} (h:AW P N own lc Q T L) (hq:∀ e T L,Q e T L→Q' e T L):AW P N own lc Q' T L:=fun c hc w0 S0 E a w hst =>
 wp_mono (h c hc w0 S0 E a w hst) fun e a' w' ⟨E',T',L',h1,h2,h3⟩=>⟨E',T',L',h1,hq _ _ _ h2,h3⟩
theorem AW.weakT {lc:cc} {T':Tm} (h:AW P N own lc Q T' L) (hT:∀ t v,aM T' t=some v→aM T t=some v):AW P N own lc Q T L:=fun c hc w0 S0 E a w hst =>
 h c hc w0 S0 E a w (hst.weak hT rfl fun _ _ e=>.inr e)
theorem Tt {c:Code} (hc:a8 P N own c=some (.skip)):c=.skip:=by
 rcases c with _|⟨_,_,draw⟩|_|_|_|_|_|_|_|_|_|_|_
 case region =>
   cases draw<;>simp only [a8] at hc
   all_goals
     (repeat' split at hc)
     all_goals (first|(cases hc;done)|(simp only [Option.map_eq_some_iff] at hc;obtain ⟨_,_,hc⟩:=hc;cases hc;done)|(simp only [Option.bind_eq_some_iff] at hc;obtain ⟨_,_,hc⟩:=hc;split at hc<;>cases hc;done))
 case skip=>rfl
 all_goals
   simp only [a8] at hc
   (repeat' split at hc)
   all_goals (first|(cases hc;done)|(simp only [Option.map_eq_some_iff] at hc;obtain ⟨_,_,hc⟩:=hc;cases hc;done))
theorem Tv {c:Code} {id:Nat} (hc:a8 P N own c=some (.exit id)):c=.exit id:=by
 rcases c with _|⟨_,_,draw⟩|_|_|_|_|_|_|_|_|_|_|_
 case region =>
   cases draw<;>simp only [a8] at hc
   all_goals
     (repeat' split at hc)
     all_goals (first|(cases hc;done)|(simp only [Option.map_eq_some_iff] at hc;obtain ⟨_,_,hc⟩:=hc;cases hc;done)|(simp only [Option.bind_eq_some_iff] at hc;obtain ⟨_,_,hc⟩:=hc;split at hc<;>cases hc;done))
 case exit=>simp only [a8,Option.some.injEq,cc.exit.injEq] at hc;rw [hc]
 all_goals
   simp only [a8] at hc
   (repeat' split at hc)
   all_goals (first|(cases hc;done)|(simp only [Option.map_eq_some_iff] at hc;obtain ⟨_,_,hc⟩:=hc;cases hc;done))
theorem Vh {c:Code} (hc:a8 P N own c=some (.ret)):c=.ret:=by
 rcases c with _|⟨_,_,draw⟩|_|_|_|_|_|_|_|_|_|_|_
 case region =>
   cases draw<;>simp only [a8] at hc
   all_goals
     (repeat' split at hc)
     all_goals (first|(cases hc;done)|(simp only [Option.map_eq_some_iff] at hc;obtain ⟨_,_,hc⟩:=hc;cases hc;done)|(simp only [Option.bind_eq_some_iff] at hc;obtain ⟨_,_,hc⟩:=hc;split at hc<;>cases hc;done))
 case ret=>rfl
 all_goals
   simp only [a8] at hc
   (repeat' split at hc)
   all_goals (first|(cases hc;done)|(simp only [Option.map_eq_some_iff] at hc;obtain ⟨_,_,hc⟩:=hc;cases hc;done))
theorem QM {c:Code} {x y:cc} (hc:a8 P N own c=some (.seq x y)):∃ c1 c2,c=.seq c1 c2∧a8 P N own c1=some x∧a8 P N own c2=some y:=by
 rcases c with _|⟨_,_,draw⟩|_|_|_|_|_|_|_|_|_|_|_
 case region =>
   cases draw<;>simp only [a8] at hc
   all_goals
     (repeat' split at hc)
     all_goals (first|(cases hc;done)|(simp only [Option.map_eq_some_iff] at hc;obtain ⟨_,_,hc⟩:=hc;cases hc;done)|(simp only [Option.bind_eq_some_iff] at hc;obtain ⟨_,_,hc⟩:=hc;split at hc<;>cases hc;done))
 case seq => 
   simp only [a8] at hc
   split at hc<;>try (cases hc;done)
   rename_i h1 h2
   cases hc
   exact ⟨_,_,rfl,h1,h2⟩
 all_goals
   simp only [a8] at hc
   (repeat' split at hc)
   all_goals (first|(cases hc;done)|(simp only [Option.map_eq_some_iff] at hc;obtain ⟨_,_,hc⟩:=hc;cases hc;done))
theorem ON {c:Code} {o:Opd} {x y:cc} (hc:a8 P N own c=some (.cond o x y)):∃ c0 c1 c2,c=.cond c0 c1 c2∧br c0=some o∧a8 P N own c1=some x∧a8 P N own c2=some y:=by
 rcases c with _|⟨_,_,draw⟩|_|_|_|_|_|_|_|_|_|_|_
 case region =>
   cases draw<;>simp only [a8] at hc
   all_goals
     (repeat' split at hc)
     all_goals (first|(cases hc;done)|(simp only [Option.map_eq_some_iff] at hc;obtain ⟨_,_,hc⟩:=hc;cases hc;done)|(simp only [Option.bind_eq_some_iff] at hc;obtain ⟨_,_,hc⟩:=hc;split at hc<;>cases hc;done))
 case cond => 
   simp only [a8] at hc
   split at hc<;>try (cases hc;done)
   rename_i h1 h2 h3
   cases hc
   exact ⟨_,_,_,rfl,h1,h2,h3⟩
 all_goals
   simp only [a8] at hc
   (repeat' split at hc)
   all_goals (first|(cases hc;done)|(simp only [Option.map_eq_some_iff] at hc;obtain ⟨_,_,hc⟩:=hc;cases hc;done))
theorem RH {c:Code} {id:Nat} {x:cc} (hc:a8 P N own c=some (.block id x)):∃ c1,c=.block id c1∧a8 P N own c1=some x:=by
 rcases c with _|⟨_,_,draw⟩|_|_|_|_|_|_|_|_|_|_|_
 case region =>
   cases draw<;>simp only [a8] at hc
   all_goals
     (repeat' split at hc)
     all_goals (first|(cases hc;done)|(simp only [Option.map_eq_some_iff] at hc;obtain ⟨_,_,hc⟩:=hc;cases hc;done)|(simp only [Option.bind_eq_some_iff] at hc;obtain ⟨_,_,hc⟩:=hc;split at hc<;>cases hc;done))
 case block => 
   simp only [a8,Option.map_eq_some_iff,cc.block.injEq] at hc
   obtain ⟨_,h1,rfl,rfl⟩:=hc
   exact ⟨_,rfl,h1⟩
 all_goals
   simp only [a8] at hc
   (repeat' split at hc)
   all_goals (first|(cases hc;done)|(simp only [Option.map_eq_some_iff] at hc;obtain ⟨_,_,hc⟩:=hc;cases hc;done))
theorem Tu {c:Code} {x:cc} (hc:a8 P N own c=some (.loop x)):∃ c1,c=.loop c1∧a8 P N own c1=some x:=by
 rcases c with _|⟨_,_,draw⟩|_|_|_|_|_|_|_|_|_|_|_
 case region =>
   cases draw<;>simp only [a8] at hc
   all_goals
     (repeat' split at hc)
     all_goals (first|(cases hc;done)|(simp only [Option.map_eq_some_iff] at hc;obtain ⟨_,_,hc⟩:=hc;cases hc;done)|(simp only [Option.bind_eq_some_iff] at hc;obtain ⟨_,_,hc⟩:=hc;split at hc<;>cases hc;done))
 case loop => 
   simp only [a8,Option.map_eq_some_iff,cc.loop.injEq] at hc
   obtain ⟨_,h1,rfl⟩:=hc
   exact ⟨_,rfl,h1⟩
 all_goals
   simp only [a8] at hc
   (repeat' split at hc)
   all_goals (first|(cases hc;done)|(simp only [Option.map_eq_some_iff] at hc;obtain ⟨_,_,hc⟩:=hc;cases hc;done))
theorem Lz {c:Code} {ops:List ad} (hc:a8 P N own c=some (.region ops)):∃ id os,c=.region id os false∧bS P N (own id) os (List.range os.size)=some ops:=by
 rcases c with _|⟨_,_,draw⟩|_|_|_|_|_|_|_|_|_|_|_
 case region =>
   cases draw<;>simp only [a8] at hc
   · simp only [Option.map_eq_some_iff,cc.region.injEq] at hc
     obtain ⟨_,h1,rfl⟩:=hc
     exact ⟨_,_,rfl,h1⟩
   · simp only [Option.bind_eq_some_iff] at hc;obtain ⟨_,_,hc⟩:=hc;split at hc<;>cases hc
 all_goals
   simp only [a8] at hc
   (repeat' split at hc)
   all_goals (first|(cases hc;done)|(simp only [Option.map_eq_some_iff] at hc;obtain ⟨_,_,hc⟩:=hc;cases hc;done))
theorem JT {c:Code} {qk:List (ad×Kd)} {ts:List ad} (hc:a8 P N own c=some (.dregion qk ts)):∃ id os los n,c=.region id os true∧bS P N (own id) os (List.range os.size)=some los∧F2 os los n=true∧n≤los.length∧P.follows .mixedOrders=true∧qk.map (·.1)=los.take n∧ts=los.drop n∧Lu (jA os.toList []) qk=true:=by
 rcases c with _|⟨_,_,draw⟩|_|_|_|_|_|_|_|_|_|_|_
 case region =>
   cases draw<;>simp only [a8] at hc
   · simp only [Option.map_eq_some_iff] at hc;obtain ⟨_,_,hc⟩:=hc;cases hc
   · simp only [Option.bind_eq_some_iff] at hc
     obtain ⟨los,h1,hc⟩:=hc
     split at hc
     · rename_i hb
       simp only [Bool.and_eq_true,decide_eq_true_eq] at hb
       simp only [Option.some.injEq,cc.dregion.injEq] at hc
       obtain ⟨rfl,rfl⟩:=hc
       exact ⟨_,_,los,_,rfl,h1,hb.1.1.1,hb.1.1.2,hb.1.2,OJ _ _ _,rfl,hb.2⟩
     · cases hc
 all_goals
   simp only [a8] at hc
   (repeat' split at hc)
   all_goals (first|(cases hc;done)|(simp only [Option.map_eq_some_iff] at hc;obtain ⟨_,_,hc⟩:=hc;cases hc;done))
theorem aH (h:Q .normal T L):AW P N own .skip Q T L:=fun c hc w0 S0 E a w hst=>by
 obtain rfl:=Tt hc
 exact wp_skip ⟨E,T,L,.refl E,h,hst⟩
theorem aJ {id:Nat} (h:Q (.exit id) T L):AW P N own (.exit id) Q T L:=fun c hc w0 S0 E a w hst=>by
 obtain rfl:=Tv hc
 exact wp_exit ⟨E,T,L,.refl E,h,hst⟩
theorem aU (h:Q .ret T L):AW P N own .ret Q T L:=fun c hc w0 S0 E a w hst=>by
 obtain rfl:=Vh hc
 exact wp_ret ⟨E,T,L,.refl E,h,hst⟩
def Q1 (K:Tm→List Blk→Prop) (Q:Exit→Tm→List Blk→Prop):Exit→Tm→List Blk→Prop
 | .normal,T,L=>K T L
 | e,T,L=>Q e T L
theorem aT {x y:cc} (h:AW P N own x (Q1 (AW P N own y Q) Q) T L):AW P N own (.seq x y) Q T L:=fun c hc w0 S0 E a w hst=>by
 obtain ⟨c1,c2,rfl,h1,h2⟩:=QM hc
 refine wp_seq (wp_mono (h c1 h1 w0 S0 E a w hst) fun e a' w' ⟨E',T',L',g1,g2,g3⟩=>?_)
 cases e
 case normal=>exact wp_mono (g2 c2 h2 w0 S0 E' a' w' g3) fun e a'' w'' ⟨E'',T'',L'',k1,k2,k3⟩=>⟨E'',T'',L'',g1.trans k1,k2,k3⟩
 all_goals exact ⟨E',T',L',g1,g2,g3⟩
theorem aA {x:Opd} {y z:cc} {b:Bool} (hx:evX T x=some (.bool b)) (ht:b=true→AW P N own y Q T L) (hf:b=false→AW P N own z Q T L):AW P N own (.cond x y z) Q T L:=fun c hc w0 S0 E a w hst=>by
 obtain ⟨c0,c1,c2,rfl,h1,h2,h3⟩:=ON hc
 have:=am h1 hx hst.2.1
 simp only [VR] at this
 exact wp_cond_split this (fun e=>ht e c1 h2 w0 S0 E a w hst) (fun e=>hf e c2 h3 w0 S0 E a w hst)
def Qk (id:Nat) (Q:Exit→Tm→List Blk→Prop):Exit→Tm→List Blk→Prop
 | .exit id',T,L=>if id'=id then Q .normal T L else Q (.exit id') T L
 | e,T,L=>Q e T L
theorem af {x:Opd} {y z:cc} (hx:evX T x=some .anyb) (ht:AW P N own y Q T L) (hf:AW P N own z Q T L):AW P N own (.cond x y z) Q T L:=fun c hc w0 S0 E a w hst=>by
 obtain ⟨c0,c1,c2,rfl,h0,h1,h2⟩:=ON hc
 have hv:=am h0 hx hst.2.1
 simp only [VR] at hv
 obtain ⟨b,hv⟩:=hv
 exact wp_cond_split hv (fun _=>ht c1 h1 w0 S0 E a w hst) (fun _=>hf c2 h2 w0 S0 E a w hst)
theorem aw {id:Nat} {x:cc} (h:AW P N own x (Qk id Q) T L):AW P N own (.block id x) Q T L:=fun c hc w0 S0 E a w hst=>by
 obtain ⟨c1,rfl,h1⟩:=RH hc
 refine wp_block (wp_mono (h c1 h1 w0 S0 E a w hst) fun e a' w' ⟨E',T',L',g1,g2,g3⟩=>?_)
 cases e
 case exit i =>
   simp only [Qk] at g2
   simp only [Exit.inBlock]
   split at g2
   · rename_i e;rw [if_pos e];exact ⟨E',T',L',g1,g2,g3⟩
   · rename_i e;rw [if_neg e];exact ⟨E',T',L',g1,g2,g3⟩
 all_goals exact ⟨E',T',L',g1,g2,g3⟩
theorem NQ (p:Nat→Prop):∀ n,p n→∃ m,p m∧∀ k,p k→m≤k:=by
 intro n
 induction n using Nat.strongRecOn with
 | _ n ih =>
   intro hn
   by_cases h:∃ k,k<n∧p k
   · obtain ⟨k,h1,h2⟩:=h
     exact ih k h1 h2
   · refine ⟨n,hn,fun k hk=>?_⟩
     rcases Nat.lt_or_ge k n with h1|h1
     · exact absurd ⟨k,h1,hk⟩ h
     · exact h1
theorem St.draw {E:Env} {a:Act} {w:World} {T:Tm} {L:List Blk} (h:St w0 S0 N E T L a w) (n:Nat):St w0 S0 N E T L a { w with drawn:=n }:=⟨h.1.draw n,h.2⟩
theorem Mn {qk:List (ad×Kd)} {ts:List ad} (h:AG P (ic P (Q .normal) ts) qk [L] [] T):AW P N own (.dregion qk ts) Q T L:=fun c hc w0 S0 E a w hst=>by
 obtain ⟨id,os,los,n,rfl,h1,h2,h3,h4,h5,rfl,h6⟩:=JT hc
 refine wp_region_any h4 ?_
 have hn:qk.length=n:=by
   have:=congrArg List.length h5
   simp at this;omega
 exact Pd (w0:=w0) (S0:=S0) (L:=L) (T:=T) (Q:=fun e a' w'=>∃ E' T' L',E.le E'∧Q e T' L'∧St w0 S0 N E' T' L' a' w') (K:=Q .normal) (E0:=E) h1 h2 (by rw [h5,List.take_append_drop]) hn h6 h (fun E' T' L' a' w' e1 e2 e3=>⟨E',T',L',e1,e2,e3⟩) a _ E (.refl E) (hst.draw _)
def V4 (mask:List Bool) (T:Tm):Bool:=(mask.zip T).all fun p=>p.1 || (aM (sel mask T) p.2.1).isNone
theorem KT:∀ {mask:List Bool} {T:Tm} {t:Nat} {v:AV},(∀ p∈mask.zip T,p.1=true∨p.2.1≠t)→aM (sel mask T) t=some v→aM T t=some v
 | [],T,t,v,_,h=>by rwa [Qv] at h
 | true::m,[],t,v,_,h=>by simp [sel,aM] at h
 | false::m,[],t,v,_,h=>by simp [sel,aM] at h
 | true::m,x::T,t,v,hm,h=>by
   obtain ⟨k,u⟩:=x
   rw [VK] at h
   simp only [aM] at h ⊢
   split
   · rename_i e;rw [if_pos e] at h;exact h
   · rename_i e;rw [if_neg e] at h
     exact KT (fun p hp=>hm p (by simp only [List.zip_cons_cons,List.mem_cons];exact .inr hp)) h
 | false::m,x::T,t,v,hm,h=>by
   obtain ⟨k,u⟩:=x
   rw [VL] at h
   have hk:k≠t:=by
     rcases hm (false,(k,u)) (by simp) with h|h
     · cases h
     · exact h
   simp only [aM]
   rw [if_neg hk]
   exact KT (fun p hp=>hm p (by simp only [List.zip_cons_cons,List.mem_cons];exact .inr hp)) h
theorem IF {mask:List Bool} {T:Tm} {t:Nat} {v:AV} (hb:V4 mask T=true) (h:aM (sel mask T) t=some v):aM T t=some v :=
 KT (fun p hp=>by
   have:=List.all_eq_true.1 hb p hp
   rcases Bool.or_eq_true_iff.1 this with h1|h1
   · exact .inl h1
   · refine .inr fun e=>?_
     rw [e,h] at h1;cases h1) h
def Pi (mask:List Bool) (K:Tm→List Blk→Prop) (T:Tm) (L:List Blk):Prop:=V4 mask T=true∧K (sel mask T) L
theorem aC {mask:List Bool} {K:Tm→List Blk→Prop} {T:Tm} {L:List Blk} (h1:V4 mask T=true) (h2:K (sel mask T) L):Pi mask K T L:=⟨h1,h2⟩
def frB (ds:List Nat) (T:Tm):Bool:=ds.all fun d=>(aM T d).isNone
theorem aG {sops:List SOp} {mask:List Bool} (hf:(okS sops && frB (gds sops) T)=true) (h:SL P sops (Pi mask (Q .normal)) T L):AW P N own (.sreg sops mask) Q T L:=fun c hc w0 S0 E a w hst=>by
 obtain ⟨id,os,rfl,h1⟩:=Lz hc
 rw [Bool.and_eq_true] at hf
 refine wp_region (Gv sops hf.1 h1 hst (fun d hd=>?_) h fun E' T' L' a' w' h2 h3 h4=>⟨E',sel mask T',L',h2,h3.2,h4.weak (fun t v hv=>IF h3.1 hv) rfl fun _ _ e=>.inr e⟩)
 have:=List.all_eq_true.1 hf.2 d hd
 simpa using this
def Wx (mask:List Bool) (K:Tm→List Blk→Prop) (L:List Blk) (T:Tm):Prop:=Pi mask K T L
theorem VD {mask:List Bool} {K:Tm→List Blk→Prop} {T:Tm} {L:List Blk}:Wx mask K L T=Pi mask K T L:=rfl
theorem ap {sops:List SOp} {kds:List Kd} {mask:List Bool} (hf:(okG none [] [] sops && frB (gds sops) T && decide (kds.length≤(SOp.flatL sops).length))=true) (h:GL P L sops (Wx mask (Q .normal) L) T):AW P N own (.sdreg sops kds mask) Q T L:=fun c hc w0 S0 E a w hst=>by
 obtain ⟨id,os,los,n,rfl,h1,h2,h3,h4,h5,h6,_⟩:=JT hc
 simp only [Bool.and_eq_true,decide_eq_true_eq] at hf
 obtain ⟨⟨f1,f2⟩,f3⟩:=hf
 have hlos:los=SOp.flatL sops:=by
   have e1:((SOp.flatL sops).zip kds).map (·.1)=(SOp.flatL sops).take kds.length:=by
     have key:∀ (l:List ad) (m:List Kd),(l.zip m).map (·.1)=l.take m.length:=by
       intro l
       induction l with
       | nil=>intro m;simp
       | cons o l ih=>intro m;cases m<;>simp [ih]
     exact key _ _
   rw [e1] at h5
   rw [← List.take_append_drop n los,← h5,← h6,List.take_append_drop]
 have hlen:los.length=os.size:=by simpa using (pR h1).1
 refine wp_region_any h4 ?_
 have hdraw:F2 os los los.length=true:=by
   simp only [F2,Bool.and_eq_true] at h2 ⊢
   refine ⟨h2.1,?_⟩
   simp only [Qe,List.all_eq_true,List.mem_range,Bool.or_eq_true,decide_eq_true_eq]
   exact fun i hi=>.inl (by omega)
 have har:=R7 (P:=P) (L:=L) f1 (T:=T) (fun d hd=>by
   have:=List.all_eq_true.1 f2 d hd
   simpa using this) h
 refine Pd (w0:=w0) (S0:=S0) (L:=L) (T:=T) (Q:=fun e a' w'=>∃ E' T' L',E.le E'∧Q e T' L'∧St w0 S0 N E' T' L' a' w') (E0:=E) (qk:=los.map fun o=>(o,.read 0 0)) (ts:=[]) h1 hdraw (by simp [List.map_map,Function.comp_def]) (by simp) ?_ (K:=fun T1 L'=>L'=L∧∃ T',Wx mask (Q .normal) L T'∧∀ t v,aM T' t=some v→aM T1 t=some v)
   ?_ (fun E' T' L' a' w' e1 ⟨e2,T2,e3,e4⟩ e5=>?_) a _ E (.refl E) (hst.draw _)
 · have hno:∀ (l:List ad) (k:Nat),cr (l.map fun o=>(o,Kd.read 0 0)) k=[]:=by
     intro l
     induction l with
     | nil=>intro k;rfl
     | cons o l ih=>intro k;simp only [List.map_cons,cr];exact ih _
   simp only [Lu,hno,List.length_nil,List.range_zero,List.all_nil,Bool.true_and,List.all_eq_true]
   intro p hp
   obtain ⟨⟨o,kd⟩,i⟩:=p
   have:kd=Kd.read 0 0:=by
     have:=List.fst_mem_of_mem_zipIdx hp
     simp only [List.mem_map] at this
     obtain ⟨o',_,e⟩:=this
     cases e;rfl
   subst this;rfl
 · rw [hlos]
   exact har
 · subst e2
   exact ⟨E',sel mask T2,_,e1,e3.2,e5.weak (fun t v hv=>e4 t v (IF e3.1 hv)) rfl fun _ _ e=>.inr e⟩
theorem aq {qk:List (ad×Kd)} {ts:List ad} {mask:List Bool} (h:AG P (ic P (Pi mask (Q .normal)) ts) qk [L] [] T):AW P N own (.dregM qk ts mask) Q T L:=fun c hc w0 S0 E a w hst=>by
 have:=Mn (N:=N) (own:=own) (Q:=fun e T' L'=>e=.normal∧Pi mask (Q .normal) T' L') (L:=L) (T:=T) (qk:=qk) (ts:=ts) (P:=P) ?_ c hc w0 S0 E a w hst
 · refine wp_mono this fun e a' w' ⟨E',T',L',g1,⟨g2,g3⟩,g4⟩=>?_
   subst g2
   exact ⟨E',sel mask T',L',g1,g3.2,g4.weak (fun t v hv=>IF g3.1 hv) rfl fun _ _ e=>.inr e⟩
 · have e:(fun T' L'=>Exit.normal=Exit.normal∧Pi mask (Q .normal) T' L')=Pi mask (Q .normal):=by
     funext T' L';simp
   rw [e];exact h
theorem aj {ops:List ad} (h:ic P (Q .normal) ops T L):AW P N own (.region ops) Q T L:=fun c hc w0 S0 E a w hst=>by
 obtain ⟨id,os,rfl,h1⟩:=Lz hc
 exact wp_region (Gk _ _ h1 hst h fun E' T' L' a' w' h2 h3 h4=>⟨E',T',L',h2,h3,h4⟩)
end
inductive Ql where
 | tmp (t:Nat)
 | cell (agg:Bool) (sz t:Nat)
 deriving Inhabited
structure ba where
 ntmps:Nat
 code:cc
 res:List Ql
 deriving Inhabited
def ba.raw (f:ba):ba:=⟨f.ntmps,f.code.raw,f.res⟩
def FS (P:Program):List ResultVar→Option (List Ql)
 | []=>some []
 | .tmp t::l=>(FS P l).map (.tmp t::·)
 | .cell a t::l=>match fv P t,bT P t,FS P l with
   | some g,some s,some m=>some (.cell g s a::m)
   | _,_,_=>none
def bb (P:Program) (own:Nat→Nat→Nat) (f:FuncId):Option ba :=
 match P.funcs[f]? with
 | none=>none
 | some fn=>if (fn.name == "runtime.NumGoroutine")=true then none else match fn.body with
   | none=>none
   | some c=>match a8 P fn.ntmps own c,FS P fn.results.toList with
     | some lc,some rs=>some ⟨fn.ntmps,lc,rs⟩
     | _,_=>none
def KX (T:Tm) (L:List Blk):List Ql→Option (Prop×List AV)
 | []=>some (True,[])
 | .tmp t::l=>match aM T t,KX T L l with
   | some v,some (c,m)=>some (c,v::m)
   | _,_=>none
 | .cell g sz t::l=>match (aM T t).bind (row L),KX T L l with
   | some (r,off),some (c,m)=>if g then some (off+sz≤r.length∧c,.agg ((r.drop off).take sz)::m) else some (off<r.length∧c,r.getD off .undef::m)
   | _,_=>none
def Oj:List AV→AV
 | [v]=>v
 | l=>.tup l
def aN (i:Nat):List AV→Tm
 | []=>[]
 | a::l=>(i,a)::aN (i+1) l
section
variable {P:Program} {w0:World} {S0:Nat→Prop} {N:Nat} {E:Env} {L:List Blk} {w:World} {T:Tm} {a:Act}
theorem GA:∀ {rs:List ResultVar} {ls:List Ql} {c:Prop} {m:List AV},FS P rs=some ls→KX T L ls=some (c,m)→c→Rel w0 S0 E L w→TR E T a →
   ∃ vs,VRL E m vs∧(rs.mapM (m:=Sem) fun
     | .tmp t=>pure (a.tmps.getD t undef)
     | .cell x t=>do loadVar t (← asAddr (a.tmps.getD x undef))).run P w=.ok vs w
 | [],ls,c,m,hl,he,hc,hR,hT=>by
   simp [FS] at hl;subst hl
   simp [KX] at he;obtain ⟨_,rfl⟩:=he
   exact ⟨[],by simp [VRL],by simp⟩
 | .tmp t::rs,ls,c,m,hl,he,hc,hR,hT=>by
   simp only [FS,Option.map_eq_some_iff] at hl
   obtain ⟨ls',h1,rfl⟩:=hl
   simp only [KX] at he
   split at he<;>try cases he
   rename_i v c' m' h2 h3
   obtain ⟨vs,h4,h5⟩:=GA h1 h3 hc hR hT
   exact ⟨_::vs,⟨_,_,rfl,hT _ _ h2,h4⟩,by simp only [List.mapM_cons,Sem.run_bind,Sem.run_pure,Result.andThen_ok,h5]⟩
 | .cell x t::rs,ls,c,m,hl,he,hc,hR,hT=>by
   simp only [FS] at hl
   split at hl<;>try cases hl
   rename_i g s ls' hg hs h1
   simp only [KX] at he
   split at he<;>try cases he
   rename_i r off c' m' h2 h3
   rcases h6:aM T x with _|u
   · simp [h6] at h2
   · simp only [h6,Option.bind_some] at h2
     have hv:=hT _ _ h6
     obtain ⟨b,o,hp,hcells⟩:=II hR h2 hv
     have hAddr:(asAddr (a.tmps.getD x undef)).run P w=.ok ⟨b,o+off,none⟩ w:=by rw [hp];rfl
     cases g
     · simp only [Bool.false_eq_true,if_false,Option.some.injEq,Prod.mk.injEq] at he
       obtain ⟨rfl,rfl⟩:=he
       obtain ⟨vs,h4,h5⟩:=GA h1 h3 hc.2 hR hT
       obtain ⟨y,h7,h8⟩:=hcells off r[off] (List.getElem?_eq_getElem hc.1)
       refine ⟨y::vs,⟨_,_,rfl,by rw [List.getD_eq_getElem?_getD,List.getElem?_eq_getElem hc.1];exact h8,h4⟩,?_⟩
       have hload:(loadVar t ⟨b,o+off,none⟩).run P w=.ok y w:=by simp [loadVar,pu hg,h7]
       simp only [List.mapM_cons,Sem.run_bind,hAddr,Result.andThen_ok,hload,h5,Sem.run_pure]
     · simp only [if_true,Option.some.injEq,Prod.mk.injEq] at he
       obtain ⟨rfl,rfl⟩:=he
       obtain ⟨vs,h4,h5⟩:=GA h1 h3 hc.2 hR hT
       have hlen:((r.drop off).take s).length=s:=by simp;omega
       obtain ⟨cs,h7,h8⟩:=JS (P:=P) (w:=w) (b:=b) (o:=o+off) (l:=(r.drop off).take s) hg (by rw [hlen];exact hs) (fun j a ha=>by
         have hj:j<s:=by have:=(List.getElem?_eq_some_iff.1 ha).1;omega
         rw [List.getElem?_take_of_lt hj,List.getElem?_drop] at ha
         have:=hcells _ _ ha
         rwa [← Nat.add_assoc] at this)
       refine ⟨.agg ⟨cs⟩::vs,⟨_,_,rfl,⟨cs,rfl,h7⟩,h4⟩,?_⟩
       simp only [List.mapM_cons,Sem.run_bind,hAddr,Result.andThen_ok,h8,h5,Sem.run_pure]
theorem SO {m:List AV} {vs:List Value} (h:VRL E m vs):VR E (Oj m) (if h:vs.length=1 then vs[0] else .tuple ⟨vs⟩):=by
 have hl:=h.length
 by_cases h1:vs.length=1
 · rw [dif_pos h1]
   match m,vs,h,hl,h1 with
   | [x],[y],h,_,_ =>
     simp only [VRL,List.cons.injEq] at h
     obtain ⟨_,_,⟨rfl,rfl⟩,h2,_⟩:=h
     exact h2
 · rw [dif_neg h1]
   have:Oj m=.tup m:=by
     match m,hl with
     | [],_=>rfl
     | [x],hl=>simp at hl;exact absurd hl h1
     | _::_::_,_=>rfl
   rw [this]
   exact ⟨vs,rfl,h⟩
theorem Lr:∀ {args:List AV} {i t:Nat} {v:AV},aM (aN i args) t=some v→i≤t∧args[t - i]?=some v
 | [],i,t,v,h=>by simp [aN,aM] at h
 | x::args,i,t,v,h=>by
   simp only [aN,aM] at h
   split at h
   · rename_i e;subst e;simp at h;subst h;simp
   · rename_i e
     have:=Lr h
     refine ⟨by omega,?_⟩
     rw [show t - i=(t - (i+1))+1 by omega]
     simpa using this.2
def Fin (L0:List Blk) (r:AV) (L:List Blk) (Q:AV→List Blk→Prop):Prop :=
 ∀ (w0:World) (S0:Nat→Prop) (E0 E:Env) (w:World) (v:Value),E0.le E→(∀ i,L0.length≤i→E0.loc i=none∧E0.tok i=none)→(∀ k∈L0,k.refs (fun i=>decide (i<L0.length))=true) →
   Rel w0 S0 E L w→VR E r v→∃ E' av L',E0.le E'∧Q av L'∧VR E' av v∧Rel w0 S0 E' L' w
mutual
theorem VR.refs {n:Nat} (hn:∀ i,n≤i→E.loc i=none) (ht:∀ i,n≤i→E.tok i=none):∀ (a:AV) (v:Value),VR E a v→a.refs (fun i=>decide (i<n))=true
 | .undef,_,_=>rfl
 | .bool _,_,_=>rfl
 | .anyb,_,_=>rfl
 | .int _ _,_,_=>rfl
 | .str _,_,_=>rfl
 | .nilptr,_,_=>rfl
 | .gptr _ _,_,_=>rfl
 | .ptr i off,v,r=>by
   simp only [VR] at r;obtain ⟨c,h,_⟩:=r
   simp only [AV.refs,decide_eq_true_eq]
   rcases Nat.lt_or_ge i n with h1|h1
   · exact h1
   · rw [hn i h1] at h;cases h
 | .iptr l off,v,r=>by
   simp only [VR] at r;obtain ⟨b,o,_,h⟩:=r
   exact VRC.refs hn ht l b o h
 | .nilsl,_,_=>rfl
 | .sl l m cap,v,r=>by
   simp only [VR] at r;obtain ⟨p,c,_,_,_,h⟩:=r
   rcases h with ⟨_,_,_,rfl⟩|⟨b,o,_,h⟩
   · rfl
   · exact VRC.refs hn ht l b o h
 | .gsl l m i sz,v,r=>by
   simp only [VR] at r;obtain ⟨p,c,_,_,_,h,t,h2,_⟩:=r
   simp only [AV.refs,decide_eq_true_eq,Bool.and_eq_true]
   refine ⟨?_,?_⟩
   · rcases Nat.lt_or_ge i n with h1|h1
     · exact h1
     · rw [ht i h1] at h2;cases h2
   · rcases h with ⟨_,_,_,rfl⟩|⟨b,o,_,h⟩
     · rfl
     · exact VRC.refs hn ht l b o h
 | .lsl i off len cap sz,v,r=>by
   simp only [VR] at r;obtain ⟨c,rc,d,h,_⟩:=r
   simp only [AV.refs,decide_eq_true_eq]
   rcases Nat.lt_or_ge i n with h1|h1
   · exact h1
   · rw [hn i h1] at h;cases h
 | .nilmap,_,_=>rfl
 | .lmap i,v,r=>by
   simp only [VR] at r;obtain ⟨c,h,_⟩:=r
   simp only [AV.refs,decide_eq_true_eq]
   rcases Nat.lt_or_ge i n with h1|h1
   · exact h1
   · rw [hn i h1] at h;cases h
 | .func f caps,v,r=>by
   simp only [VR] at r;obtain ⟨vs,_,h⟩:=r
   exact VRL.refs hn ht caps vs h
 | .nilfunc,_,_=>rfl
 | .nilif,_,_=>rfl
 | .iface t x,v,r=>by
   simp only [VR] at r;obtain ⟨y,_,h⟩:=r
   exact VR.refs hn ht x y h
 | .agg l,v,r=>by
   simp only [VR] at r;obtain ⟨vs,_,h⟩:=r
   exact VRL.refs hn ht l vs h
 | .tup l,v,r=>by
   simp only [VR] at r;obtain ⟨vs,_,h⟩:=r
   exact VRL.refs hn ht l vs h
theorem VRL.refs {n:Nat} (hn:∀ i,n≤i→E.loc i=none) (ht:∀ i,n≤i→E.tok i=none):∀ (l:List AV) (vs:List Value),VRL E l vs→AV.refsL (fun i=>decide (i<n)) l=true
 | [],_,_=>rfl
 | a::l,vs,r=>by
   simp only [VRL] at r;obtain ⟨x,xs,_,h1,h2⟩:=r
   simp only [AV.refsL,Bool.and_eq_true]
   exact ⟨VR.refs hn ht a x h1,VRL.refs hn ht l xs h2⟩
theorem VRC.refs {n:Nat} (hn:∀ i,n≤i→E.loc i=none) (ht:∀ i,n≤i→E.tok i=none):∀ (l:List AV) (b o:Nat),VRC E l b o→AV.refsL (fun i=>decide (i<n)) l=true
 | [],_,_,_=>rfl
 | a::l,b,o,r=>by
   simp only [VRC] at r;obtain ⟨⟨x,_,h1⟩,h2⟩:=r
   simp only [AV.refsL,Bool.and_eq_true]
   exact ⟨VR.refs hn ht a x h1,VRC.refs hn ht l b (o+1) h2⟩
end
theorem aW.refs {n:Nat} (hn:∀ i,n≤i→E.loc i=none) (ht:∀ i,n≤i→E.tok i=none):∀ {l:List (AV×AV×Nat)} {es:List MapEntry},aW E l es→(l.all fun e=>e.1.refs (fun i=>decide (i<n)) && e.2.1.refs (fun i=>decide (i<n)))=true
 | [],_,_=>rfl
 | (k,x,b)::l,es,r=>by
   simp only [aW] at r;obtain ⟨e,t,_,h1,h2,_,h3⟩:=r
   simp only [List.all_cons,Bool.and_eq_true]
   exact ⟨⟨VR.refs hn ht _ _ h1,VR.refs hn ht _ _ h2⟩,aW.refs hn ht h3⟩
theorem Rel.refs (h:Rel w0 S0 E L w):∀ k∈L,k.refs (fun i=>decide (i<L.length))=true:=fun k hk=>by
 obtain ⟨i,hi⟩:=List.mem_iff_getElem?.1 hk
 have hb:=h.blk i k hi
 cases k<;>simp only [bo] at hb
 · rfl
 · obtain ⟨c,cs,ty,fr,_,_,_,_,h5,_⟩:=hb
   refine AV.refsL_iff.2 fun a ha=>?_
   obtain ⟨j,hj⟩:=List.mem_iff_getElem?.1 ha
   obtain ⟨v,_,hv⟩:=h5 j a hj
   exact VR.refs h.fresh h.tkfresh _ _ hv
 · obtain ⟨c,rs,_,_,h3⟩:=hb
   exact aW.refs h.fresh h.tkfresh h3
 · rename_i m _ _ _
   obtain ⟨c,q,_,_,_,h4⟩:=hb
   cases m with
   | none=>rfl
   | some j =>
     obtain ⟨d,g1,_⟩:=h4
     simp only [Blk.refs,decide_eq_true_eq]
     rcases Nat.lt_or_ge j L.length with h5|h5
     · exact h5
     · rw [h.fresh j h5] at g1;cases g1
 · rfl
 · obtain ⟨c,cs,ty,fr,_,_,_,_,h5,_⟩:=hb
   refine AV.refsL_iff.2 fun a ha=>?_
   obtain ⟨j,hj⟩:=List.mem_iff_getElem?.1 ha
   obtain ⟨v,_,hv⟩:=h5 j a hj
   exact VR.refs h.fresh h.tkfresh _ _ hv
 · rfl
def WK (res:List Ql) (L0:List Blk) (Q:AV→List Blk→Prop) (e:Exit) (T:Tm) (L':List Blk):Prop :=
 (e=.normal∨e=.ret)∧∃ c rs,KX T L' res=some (c,rs)∧c∧Fin L0 (Oj rs) L' Q
theorem ag {own:Nat→Nat→Nat} {f:FuncId} {lf:ba} (h:bb P own f=some lf.raw) {args:List AV} {L:List Blk} {Q:AV→List Blk→Prop} (hlen:args.length≤lf.ntmps)
   (hb:AW P lf.ntmps own lf.code (WK lf.res L Q) (aN 0 args) L):ao P f args L Q:=by
 intro w0 S0 E w vs hR hv
 obtain ⟨nt,code,rs0⟩:=lf
 simp only [ba.raw] at h hlen hb
 unfold bb at h
 split at h
 · cases h
 rename_i fn hfn
 split at h
 · cases h
 rename_i hname
 split at h
 · cases h
 rename_i c hc
 split at h<;>try cases h
 rename_i lc rs hlc hrs
 refine .inl ⟨?_,?_⟩
 · have:(fn.name == "runtime.NumGoroutine")=false:=by simpa using hname
   simp only [callFunc,Sem.run_bind,run_program,Result.andThen_ok,hfn,this,hc,Option.isNone_some,Bool.false_eq_true,if_false,Sem.run_pure]
 · refine calls_of_wp hfn hc ?_
   have hvl:=hv.length
   have hst:St w0 S0 fn.ntmps E (aN 0 args) L { tmps:=(⟨vs⟩:Array Value)++Array.replicate (fn.ntmps - vs.length) undef,defers:=[] } w:=by
     refine ⟨hR,fun t x hx=>?_,by simp;omega,rfl⟩
     obtain ⟨_,h1⟩:=Lr hx
     simp only [Nat.sub_zero] at h1
     obtain ⟨y,h2,h3⟩:=hv.get h1
     have hlt:t<vs.length:=(List.getElem?_eq_some_iff.1 h2).1
     rw [Array.getD_eq_getD_getElem?,Array.getElem?_append_left (by simpa using hlt)]
     simpa [h2] using h3
   refine wp_mono (hb c hlc w0 S0 E _ w hst) fun e a' w' ⟨E',T',L',g1,⟨g2,c',rs',g3,g4,g5⟩,g6⟩=>?_
   obtain ⟨us,k1,k2⟩:=GA hrs g3 g4 g6.1 g6.2.1
   obtain ⟨E'',av,L'',k3,k4,k5,k6⟩:=g5 w0 S0 E E' w' _ g1 (fun i hi=>⟨hR.fresh i hi,hR.tkfresh i hi⟩) hR.refs g6.1 (SO k1)
   have hres:(results fn a'.tmps).run P w'=.ok (if h:us.length=1 then us[0] else .tuple ⟨us⟩) w':=by
     unfold results
     rw [Array.mapM_eq_mapM_toList]
     simp only [Sem.run_bind,Sem.run_map]
     refine (congrArg (fun r=>(Result.andThen r fun x w=>Result.ok x.toArray w).andThen _) k2).trans ?_
     simp
   have post:a'.defers=[]∧∃ v,(results fn a'.tmps).run P w'=.ok v w'∧∃ E' v' av L',Ending.returned v=.returned v'∧E.le E'∧Q av L'∧VR E' av v'∧Rel w0 S0 E' L' w' :=
     ⟨g6.2.2.2,_,hres,E'',_,av,L'',rfl,k3,k4,k5,k6⟩
   rcases g2 with rfl|rfl<;>exact post
theorem ab {L0 L:List Blk} {r:AV} {Q:AV→List Blk→Prop} (h:Q r L):Fin L0 r L Q:=fun w0 S0 E0 E w v h0 _ _ hR hv=>⟨E,r,L,h0,h,hv,hR⟩
theorem Np {E0 E:Env} {n m:Nat} (h0:E0.le E) (hn:∀ i,n≤i→E0.loc i=none∧E0.tok i=none) (hm:n≤m) (g:Nat→Nat) (hg:∀ i,i<n→g i=i):E0.le (E.res m g):=by
 have lt:∀ i,(E0.loc i≠none∨E0.tok i≠none)→i<n:=fun i hi=>by
   rcases Nat.lt_or_ge i n with h1|h1
   · exact h1
   · have:=hn i h1;simp [this.1,this.2] at hi
 refine ⟨fun b o x hx=>h0.mem b o x hx,fun i c hc=>?_,fun i t ht=>?_⟩
 · have hi:=lt i (.inl (by simp [hc]))
   rw [Env.res_loc (by omega),hg i hi];exact h0.loc i c hc
 · have hi:=lt i (.inr (by simp [ht]))
   rw [Env.res_tok (by omega),hg i hi];exact h0.tok i t ht
theorem Us {L0 L1 L2:List Blk} {r:AV} {Q:AV→List Blk→Prop} (hl:L1.length=L0.length) (hk:(∀ k∈L0,k.refs (fun i=>decide (i<L0.length))=true)→∀ k∈L1,k.refs (fun i=>decide (i<L0.length))=true) (hr:r.refs (fun i=>decide (i<L0.length))=true)
   (h:Q r L1):Fin L0 r (L1++L2) Q:=fun w0 S0 E0 E w v h0 hn hw hR hv=>by
 have hcut:=hR.cut (by rw [hl];exact hk hw)
 refine ⟨E.res L1.length id,r,L1,Np h0 hn (by omega) id (fun _ _=>rfl),h,VR.cut (E:=E) (E':=E.res L1.length id) (p:=fun i=>decide (i<L0.length)) (fun _ _ _ x=>x) (fun i c hi hc=>?_) (fun i t hi ht=>?_) r v hr hv,hcut⟩
 · rw [Env.res_loc (by have : i < L0.length := by simpa using hi
                       omega)];exact hc
 · rw [Env.res_tok (by have : i < L0.length := by simpa using hi
                       omega)];exact ht
theorem aX {L0 L:List Blk} {r:AV} {Q:AV→List Blk→Prop} (h:Fin L0 r.frz L Q):Fin L0 r L Q:=fun w0 S0 E0 E w v h0 hn hw hR hv =>
 h w0 S0 E0 E w v h0 hn hw hR (VR.frz _ _ hv)
theorem Ux {res:List Ql} {L0 L':List Blk} {T:Tm} {Q:AV→List Blk→Prop} {c:Prop} {rs:List AV} (h:KX T L' res=some (c,rs)) (hc:c) (hf:Fin L0 (Oj rs) L' Q):WK res L0 Q .ret T L':=⟨.inr rfl,c,rs,h,hc,hf⟩
theorem aa {L0 L2:List Blk} {r:AV} {Q:AV→List Blk→Prop} (hr:r.refs (fun i=>decide (i<L0.length))=true) (h:Q r L0):Fin L0 r (L0++L2) Q :=
 Us rfl (fun h=>h) hr h
mutual
def AV.snap (i:Nat) (l:List AV):AV→AV
 | .lsl j off n cap s=>if j=i then .sl ((l.drop off).take (n * s)) n cap else .lsl j off n cap s
 | .agg xs=>.agg (AV.snapL i l xs)
 | .tup xs=>.tup (AV.snapL i l xs)
 | a=>a
def AV.snapL (i:Nat) (l:List AV):List AV→List AV
 | []=>[]
 | a::xs=>AV.snap i l a::AV.snapL i l xs
end
mutual
theorem VR.snap {i:Nat} {l:List AV} {c:Loc} (hc:E.loc i=some c) (hl:VRC E l c.blk c.off):∀ (a:AV) (v:Value),VR E a v→VR E (a.snap i l) v
 | .lsl j off n cap s,v,r=>by
   simp only [AV.snap]
   split
   · rename_i e;subst e
     simp only [VR] at r ⊢
     obtain ⟨c',rc,d,h1,rfl,h2,h3,h4,h5⟩:=r
     rw [hc] at h1;cases h1
     refine ⟨_,rc,rfl,h3,h4,.inr ⟨c.blk,d,rfl,?_⟩⟩
     rcases Nat.eq_zero_or_pos n with hn|hn
     · subst hn;simp [VRC]
     · rw [h2 (by omega)]
       exact (hl.drop off).take _
   · exact r
 | .agg xs,v,r=>by
   simp only [AV.snap,VR] at r ⊢
   obtain ⟨vs,h1,h2⟩:=r
   exact ⟨vs,h1,VRL.snap hc hl xs vs h2⟩
 | .tup xs,v,r=>by
   simp only [AV.snap,VR] at r ⊢
   obtain ⟨vs,h1,h2⟩:=r
   exact ⟨vs,h1,VRL.snap hc hl xs vs h2⟩
 | .undef,_,r=>r
 | .bool _,_,r=>r
 | .anyb,_,r=>r
 | .int _ _,_,r=>r
 | .str _,_,r=>r
 | .nilptr,_,r=>r
 | .gptr _ _,_,r=>r
 | .ptr _ _,_,r=>r
 | .iptr _ _,_,r=>r
 | .nilsl,_,r=>r
 | .sl _ _ _,_,r=>r
 | .gsl _ _ _ _,_,r=>r
 | .nilmap,_,r=>r
 | .lmap _,_,r=>r
 | .func _ _,_,r=>r
 | .nilfunc,_,r=>r
 | .nilif,_,r=>r
 | .iface _ _,_,r=>r
theorem VRL.snap {i:Nat} {l:List AV} {c:Loc} (hc:E.loc i=some c) (hl:VRC E l c.blk c.off):∀ (xs:List AV) (vs:List Value),VRL E xs vs→VRL E (AV.snapL i l xs) vs
 | [],_,r=>r
 | a::xs,vs,r=>by
   simp only [AV.snapL,VRL] at r ⊢
   obtain ⟨x,ys,h1,h2,h3⟩:=r
   exact ⟨x,ys,h1,VR.snap hc hl a x h2,VRL.snap hc hl xs ys h3⟩
end
theorem Mk {L0 L:List Blk} {r:AV} {Q:AV→List Blk→Prop} {i:Nat} {l:List AV} (hi:L[i]?=some (.cells l)) (h:Fin L0 (r.snap i l) (L.set i .dead) Q):Fin L0 r L Q:=fun w0 S0 E0 E w v h0 hn hw hR hv=>by
 obtain ⟨c,cs,ty,fr,h1,_⟩:=hR.blk i _ hi
 obtain ⟨E',g1,g2,g3,g4⟩:=hR.snap hi h1
 exact h w0 S0 E0 E' w v (h0.trans g1) hn hw g2 (VR.snap (by rw [g4];exact h1) g3 _ _ (VR.mono g1 _ _ hv))
theorem N3 {L0 L2:List Blk} {r:AV} {Q:AV→List Blk→Prop} (k:Nat) (b:Blk) (hlv:b.live=true) (hk:L0.length≤k) (hL:(L0++L2)[k]?=some b) (hr:r.refs (fun i=>decide (i<L0.length) || decide (i=k))=true)
   (hb:b.refs (fun i=>decide (i<L0.length))=true)
   (h:Q (r.ren fun i=>if i=k then L0.length else i) (L0++[b])):Fin L0 r (L0++L2) Q:=fun w0 S0 E0 E w v h0 hn hw hR hv=>by
 have lenL:(L0++[b]).length=L0.length+1:=by simp
 have hg:∀ i,i<L0.length→(fun i=>if i<L0.length then i else k) i=i:=fun i hi=>if_pos hi
 have hloc:∀ i c,(decide (i<L0.length) || decide (i=k))=true→E.loc i=some c→(E.res (L0++[b]).length (fun i=>if i<L0.length then i else k)).loc (if i=k then L0.length else i)=some c:=by
   intro i c hi hc
   by_cases e:i=k
   · subst e
     rw [if_pos rfl,Env.res_loc (by omega),if_neg (by omega)];exact hc
   · simp only [e,decide_false,Bool.or_false,decide_eq_true_eq] at hi
     rw [if_neg e,Env.res_loc (by omega),if_pos hi];exact hc
 have htok:∀ i c,(decide (i<L0.length) || decide (i=k))=true→E.tok i=some c→(E.res (L0++[b]).length (fun i=>if i<L0.length then i else k)).tok (if i=k then L0.length else i)=some c:=by
   intro i c hi hc
   by_cases e:i=k
   · subst e
     rw [if_pos rfl,Env.res_tok (by omega),if_neg (by omega)];exact hc
   · simp only [e,decide_false,Bool.or_false,decide_eq_true_eq] at hi
     rw [if_neg e,Env.res_tok (by omega),if_pos hi];exact hc
 have low:∀ (i:Nat) (c:Blk),(L0++[b])[i]?=some c→(i<L0.length∧L0[i]?=some c)∨(i=L0.length∧c=b):=fun i c hc=>by
   rw [List.getElem?_append] at hc
   split at hc
   · rename_i hi;exact .inl ⟨hi,hc⟩
   · have hi':i=L0.length:=by
       rcases Nat.lt_or_ge (i - L0.length) 1 with h1|h1
       · omega
       · rw [List.getElem?_eq_none (by simpa using h1)] at hc;cases hc
     subst hi'
     simp at hc;exact .inr ⟨rfl,hc.symm⟩
 have hren:=hR.renum (L':=L0++[b]) (fun i=>if i<L0.length then i else k) (fun i j hi hj e=>by
   rw [lenL] at hi hj
   split at e<;>split at e<;>omega) (fun i n sz hi=>by
   rcases low i _ hi with ⟨h1,h2⟩|⟨h1,h2⟩
   · rw [if_pos h1,List.getElem?_append_left h1];exact h2
   · subst h2;simp [Blk.live] at hlv) (fun i c hc hlive=>by
   rcases low i _ hc with ⟨h1,h2⟩|⟨h1,h2⟩
   · have h3:(L0++L2)[i]?=some c:=by rw [List.getElem?_append_left h1];exact h2
     refine ⟨c,by rw [if_pos h1];exact h3,hlive,?_⟩
     refine bo.cut (E:=E) (E':=E.res (L0++[b]).length (fun i=>if i<L0.length then i else k)) (p:=fun i=>decide (i<L0.length)) (fun _ _ _ x=>x) (fun j c hj hc=>?_) (fun j c hj hc=>?_) (fun c hc=>?_) hlive (hw c (List.mem_of_getElem? h2)) (hR.blk i c h3)
     · have hj:j<L0.length:=by simpa using hj
       rw [Env.res_loc (by omega),if_pos hj];exact hc
     · have hj:j<L0.length:=by simpa using hj
       rw [Env.res_tok (by omega),if_pos hj];exact hc
     · rw [Env.res_loc (by omega),if_pos h1];exact hc
   · subst h1;subst h2
     refine ⟨c,by simpa using hL,hlive,?_⟩
     have hB:=hR.blk k _ hL
     have hlk:∀ d,E.loc k=some d→(E.res (L0++[c]).length (fun i=>if i<L0.length then i else k)).loc L0.length=some d:=fun d hd=>by
       have:=hloc k d (by simp) hd
       rwa [if_pos rfl] at this
     have cutv:∀ x v,x.refs (fun i=>decide (i<L0.length))=true→VR E x v→VR (E.res (L0++[c]).length (fun i=>if i<L0.length then i else k)) x v:=fun x v hx hv=>by
       refine VR.cut (E:=E) (E':=E.res (L0++[c]).length (fun i=>if i<L0.length then i else k)) (p:=fun i=>decide (i<L0.length)) (fun _ _ _ x=>x) (fun j d hj hd=>?_) (fun j d hj hd=>?_) x v hx hv
       · have hj:j<L0.length:=by simpa using hj
         rw [Env.res_loc (by omega),if_pos hj];exact hd
       · have hj:j<L0.length:=by simpa using hj
         rw [Env.res_tok (by omega),if_pos hj];exact hd
     cases c<;>simp only [Blk.live,Bool.false_eq_true] at hlive<;>simp only [bo,Blk.refs] at hB hb ⊢
     · obtain ⟨d,cs,ty,fr,g1,g2,g3,g4,g5,g6⟩:=hB
       exact ⟨d,cs,ty,fr,hlk d g1,g2,g3,g4,fun j a ha=>let ⟨x,q1,q2⟩:=g5 j a ha;⟨x,q1,cutv a x (AV.refsL_iff.1 hb a (List.mem_of_getElem? ha)) q2⟩,g6⟩
     · obtain ⟨d,rs,g1,g2,g3⟩:=hB
       refine ⟨d,rs,hlk d g1,g2,?_⟩
       refine aW.cut (E:=E) (E':=E.res (L0++[_]).length (fun i=>if i<L0.length then i else k)) (p:=fun i=>decide (i<L0.length)) (fun _ _ _ x=>x) (fun j d hj hd=>?_) (fun j d hj hd=>?_) hb g3
       · have hj:j<L0.length:=by simpa using hj
         rw [Env.res_loc (by omega),if_pos hj];exact hd
       · have hj:j<L0.length:=by simpa using hj
         rw [Env.res_tok (by omega),if_pos hj];exact hd
     · rename_i m _ _ _
       obtain ⟨d,q,g1,g2,g3,g4⟩:=hB
       refine ⟨d,q,hlk d g1,g2,g3,?_⟩
       cases m with
       | none=>exact g4
       | some j =>
         obtain ⟨d',q1,q2⟩:=g4
         have hj:j<L0.length:=by simpa [Blk.refs] using hb
         exact ⟨d',by rw [Env.res_loc (by omega),if_pos hj];exact q1,q2⟩
     · obtain ⟨d,g1,g2⟩:=hB
       exact ⟨d,hlk d g1,g2⟩
     · obtain ⟨d,cs,ty,fr,g1,g2,g3,g4,g5,g6⟩:=hB
       exact ⟨d,cs,ty,fr,hlk d g1,g2,g3,g4,fun j a ha=>let ⟨x,q1,q2⟩:=g5 j a ha;⟨x,q1,cutv a x (AV.refsL_iff.1 hb a (List.mem_of_getElem? ha)) q2⟩,g6⟩)
 exact ⟨E.res (L0++[b]).length (fun i=>if i<L0.length then i else k),_,_,Np h0 hn (by omega) _ hg,h,VR.ren (E:=E) (E':=E.res (L0++[b]).length (fun i=>if i<L0.length then i else k)) (p:=fun i=>decide (i<L0.length) || decide (i=k)) (fun _ _ _ x=>x) hloc htok r v hr hv,hren⟩
end
theorem KD {α:Type} (L:List α) (x:α) (l:List α):(L++x::l)[L.length]?=some x:=by simp
theorem cj {α:Type} (L l:List α) (k:Nat):(L++l)[L.length+k]?=l[k]?:=by
 rw [List.getElem?_append_right (by omega)];congr 1;omega
theorem UV {α:Type} (L:List α) (x y:α) (l:List α):(L++x::l).set L.length y=L++y::l:=by
 rw [List.set_append_right _ _ (by omega)];simp
theorem Gy {α:Type} (L l:List α) (k:Nat) (y:α):(L++l).set (L.length+k) y=L++l.set k y:=by
 rw [List.set_append_right _ _ (by omega)];congr 2;omega
theorem VC {α:Type} (L l m:List α):(L++l)++m=L++(l++m):=List.append_assoc _ _ _
theorem ac {n:Int} (h0 : -9223372036854775808≤n) (h1:n<9223372036854775808):IntKind.i64.wrap n=n:=by
 simp only [IntKind.wrap,IntKind.bits,IntKind.signed];simp;omega
theorem bQ {n:Int} (h0:0≤n) (h1:n<256):IntKind.u8.wrap n=n:=by
 simp only [IntKind.wrap,IntKind.bits,IntKind.signed];simp;omega
theorem FJ {n:Int} (h0:0≤n) (h1:n<18446744073709551616):IntKind.u64.wrap n=n:=by
 simp only [IntKind.wrap,IntKind.bits,IntKind.signed];simp;omega
theorem ar {P:Program} {N:Nat} {own:Nat→Nat→Nat} {Q:Exit→Tm→List Blk→Prop} {T:Tm} {L:List Blk} {x:Opd} {y z:cc} (hx:evX T x=some (.bool true)) (h:AW P N own y Q T L):AW P N own (.cond x y z) Q T L :=
 aA hx (fun _=>h) (fun e=>by cases e)
theorem au {P:Program} {N:Nat} {own:Nat→Nat→Nat} {Q:Exit→Tm→List Blk→Prop} {T:Tm} {L:List Blk} {x:Opd} {y z:cc} (hx:evX T x=some (.bool false)) (h:AW P N own z Q T L):AW P N own (.cond x y z) Q T L :=
 aA hx (fun e=>by cases e) (fun _=>h)
def Xc (v:AV) (xs:List Int):Prop:=(v=.nilsl∧xs=[])∨∃ cap,v=.sl (xs.map (AV.int .i64)) xs.length cap
theorem dx {p:Nat→Bool} (xs:List Int):AV.refsL p (xs.map (AV.int .i64))=true:=AV.refsL_iff.2 fun a ha=>by
 obtain ⟨x,_,rfl⟩:=List.mem_map.1 ha
 rfl
theorem Xc.refs {p:Nat→Bool} {v:AV} {xs:List Int} (h:Xc v xs):v.refs p=true:=by
 rcases h with ⟨rfl,_⟩|⟨cap,rfl⟩
 · rfl
 · exact dx xs
theorem ah {p:Prop} [Decidable p] {A B:Prop} (h1:p→A) (h2:¬ p→B):if p then A else B:=by
 by_cases h:p
 · rw [if_pos h];exact h1 h
 · rw [if_neg h];exact h2 h
theorem ae {p:Prop} [Decidable p] {A B:Prop} (h1:p→B) (h2:¬ p→A):if ¬ p then A else B:=by
 by_cases h:p
 · rw [if_neg (fun e=>e h)];exact h1 h
 · rw [if_pos h];exact h2 h
def VV (L0 L':List Blk) (Q:AV→List Blk→Prop):Option (Prop×List AV)→Prop
 | some (c,rs)=>c∧Fin L0 (Oj rs) L' Q
 | none=>False
theorem Qn {L0 L':List Blk} {Q:AV→List Blk→Prop} {c:Prop} {rs:List AV}:VV L0 L' Q (some (c,rs))=(c∧Fin L0 (Oj rs) L' Q):=rfl
theorem ai {res:List Ql} {L0 L':List Blk} {T:Tm} {Q:AV→List Blk→Prop} (h:VV L0 L' Q (KX T L' res)):WK res L0 Q .ret T L':=by
 rcases hr:KX T L' res with _|⟨c,rs⟩
 · rw [hr] at h;exact h.elim
 · rw [hr] at h;exact Ux hr h.1 h.2
def Hid (p:Prop):Prop:=p
theorem hid {p:Prop} (h:p):Hid p:=h
theorem Hid.out {p:Prop} (h:Hid p):p:=h
theorem Kto {K:AV→List Blk→Prop} {L:List Blk} {a b:AV} (h:K a L) (e:a=b):K b L:=e ▸ h
def MB (T' T:Tm):Prop:=∀ p∈T',∃ v,aM T p.1=some v∧(p.2=v∨p.2=v.frz)
theorem Lq:∀ {T:Tm} {t:Nat} {v:AV},aM T t=some v→(t,v)∈T
 | [],t,v,h=>by simp [aM] at h
 | (d,u)::T,t,v,h=>by
   simp only [aM] at h
   split at h
   · rename_i e;subst e;simp at h;subst h;simp
   · exact List.mem_cons_of_mem _ (Lq h)
theorem TR.sub {E:Env} {T T':Tm} {a:Act} (r:TR E T a) (h:MB T' T):TR E T' a:=fun t v hv=>by
 obtain ⟨u,h1,h2⟩:=h _ (Lq hv)
 have:=r t u h1
 rcases h2 with h2|h2
 · simp only at h2;subst h2;exact this
 · simp only at h2;subst h2;exact VR.frz _ _ this
theorem pG {T:Tm}:MB [] T:=fun p h=>by cases h
theorem b7 {T T':Tm} {t:Nat} {v u:AV} (h:aM T t=some u) (e:v=u) (h':MB T' T):MB ((t,v)::T') T:=fun p hp=>by
 rcases List.mem_cons.1 hp with rfl|hp
 · exact ⟨u,h,.inl e⟩
 · exact h' p hp
theorem ia {T T':Tm} {t:Nat} {v u:AV} (h:aM T t=some u) (e:v=u.frz) (h':MB T' T):MB ((t,v)::T') T:=fun p hp=>by
 rcases List.mem_cons.1 hp with rfl|hp
 · exact ⟨u,h,.inr e⟩
 · exact h' p hp
def Cut (B:Nat) (T':Tm) (L':List Blk) (T:Tm) (L:List Blk):Prop :=
 MB T' T∧∃ X,L=L'++X∧B≤L'.length∧(X=[]∨((∀ p∈T',p.2.refs (fun i=>decide (i<L'.length))=true)∧∀ k∈L',k.refs (fun i=>decide (i<L'.length))=true))
theorem pH {B:Nat} {T' T:Tm} {L:List Blk} (h:MB T' T) (hB:B≤L.length):Cut B T' L T L:=⟨h,[],by simp,hB,.inl rfl⟩
theorem CutS {B:Nat} {T' T:Tm} {L:List Blk} (a:MB T' T:=by repeat' first|exact pG|refine b7 rfl rfl ?_|refine ia rfl rfl ?_) (b:B≤L.length):Cut B T' L T L:=pH a b
theorem CutL {B:Nat} {T' T:Tm} {L:List Blk} (a:MB T' T:=by repeat' first|exact pG|refine b7 rfl rfl ?_|refine ia rfl rfl ?_|refine b7 rfl (congrArg (AV.int _) (by omega)) ?_|refine b7 rfl (by first|(simp_all;done)|(simp_all;omega)|(simp_all;intros;omega)) ?_) (b:B≤L.length):Cut B T' L T L:=pH a b
abbrev Ctr (P:Program) (f:FuncId) (A:List AV) (v:AV):Prop:=∀ {L:List Blk} {K:AV→List Blk→Prop},K v L→ao P f A L K
abbrev o0 (x:LOp):SOp:=.op ⟨none,x,none⟩
abbrev o1 (n:Nat) (x:LOp):SOp:=.op ⟨some n,x,none⟩
abbrev og (n t:Nat) (b:Bool) (x:LOp):SOp:=.op ⟨some n,x,some (t,b)⟩
abbrev od (n:Nat) (x:LOp) (k:Kd):ad×Kd:=(⟨some n,x,none⟩,k)
abbrev tm (t:Nat):Opd:=.tmp t
abbrev iv (n:Int):Opd:=.av (.int .i64 n)
attribute [push_cast] o0 o1 og od tm iv
abbrev Aa (a b:Nat):SOp:=.op ⟨some a,(.mv (.tmp b)),none⟩
abbrev Ab (a:Nat) (b:Int):SOp:=.op ⟨some a,(.mv (.av (.int .i64 b))),none⟩
abbrev Ac (a b c:Nat):SOp:=.op ⟨some a,(.load false b (.tmp c)),none⟩
abbrev Ad (a b c:Nat):SOp:=.op ⟨some a,(.faddr b (.tmp c)),none⟩
abbrev Ae (a b c:Nat):SOp:=.op ⟨some a,(.mv (.tmp c)),some (b,true)⟩
abbrev Af (a b c:Nat):SOp:=.op ⟨some a,(.mv (.tmp c)),some (b,false)⟩
abbrev Ag (a b:Nat) (c:Int):SOp:=.op ⟨some a,(.bin .add (.tmp b) (.av (.int .i64 c))),none⟩
abbrev Ah (a:Nat):SOp:=.op ⟨some a,(.mv (.av (.bool false))),none⟩
abbrev Ai (a:Nat):SOp:=.op ⟨some a,(.mv (.av (.sl [] 0 (some 0)))),none⟩
abbrev Aj (a b c:Nat):SOp:=.op ⟨some a,(.bin .lss (.tmp b) (.tmp c)),none⟩
abbrev Ak (a b:Nat):SOp:=.op ⟨some a,(.len false (.tmp b)),none⟩
abbrev Al (a b c:Nat):SOp:=.op ⟨some a,(.call b [(.tmp c)]),none⟩
abbrev Am (a:Nat):SOp:=.op ⟨some a,(.mv (.av (.str []))),none⟩
abbrev An (a b c:Nat):SOp:=.op ⟨none,(.store a (.tmp b) (.tmp c)),none⟩
abbrev Ao (a b c d:Nat):SOp:=.op ⟨some a,(.iaddr b (.tmp c) (.tmp d)),none⟩
abbrev Ap (a b:Nat):SOp:=.op ⟨some a,(.len true (.tmp b)),none⟩
abbrev Aq (a b:Nat) (c:Int):SOp:=.op ⟨some a,(.bin .eql (.tmp b) (.av (.int .i64 c))),none⟩
abbrev Ar (a b:Nat):SOp:=.op ⟨some a,(.extract (.tmp b) 0),none⟩
abbrev As (a b:Nat):SOp:=.op ⟨some a,(.extract (.tmp b) 1),none⟩
abbrev Au (a b c:Nat):SOp:=.op ⟨some a,(.load true b (.tmp c)),none⟩
abbrev Aw (a:Nat):SOp:=.op ⟨some a,(.mv (.av (.bool true))),none⟩
abbrev Ax (a b:Nat):SOp:=.op ⟨some a,(.un .not (.tmp b)),none⟩
abbrev Ay (a b c d:Nat):SOp:=.op ⟨some a,(.call b [(.tmp c),(.tmp d)]),none⟩
abbrev Az (a b:Nat) (c:Int):SOp:=.op ⟨some a,(.bin .gtr (.tmp b) (.av (.int .i64 c))),none⟩
abbrev A0 (a b c:Nat):SOp:=.op ⟨some a,(.idxS (.tmp b) (.tmp c)),none⟩
abbrev A3 (a b c:Nat) (d:Int):SOp:=.op ⟨some a,(.bin .gtr (.tmp c) (.av (.int .i64 d))),some (b,false)⟩
abbrev A4 (a b:Nat):ad×Kd:=(⟨some a,(.mv (.tmp b)),none⟩,.pure)
abbrev A5 (a b c d:Nat):SOp:=.op ⟨some a,(.call c [(.tmp d)]),some (b,true)⟩
abbrev A6 (a b:Nat):SOp:=.op ⟨some a,(.box (.tmp b)),none⟩
abbrev A7 (a b:Nat) (c:Int):SOp:=.op ⟨some a,(.bin .neq (.tmp b) (.av (.int .i64 c))),none⟩
abbrev A8 (a b c:Nat):SOp:=.op ⟨some a,(.app 1 1 1 [(.int .u8 0)] (.tmp b) (.tmp c)),none⟩
abbrev A9 (a b c:Nat):SOp:=.op ⟨some a,(.bin .eql (.tmp b) (.tmp c)),none⟩
abbrev AA (a b:Nat) (c:Int):SOp:=.op ⟨some a,(.bin .sub (.tmp b) (.av (.int .i64 c))),none⟩
abbrev AB (a b c d:Nat):SOp:=.op ⟨some a,(.load false c (.tmp d)),some (b,false)⟩
abbrev AC (a b c:Nat) (d:Int):SOp:=.op ⟨some a,(.bin .eql (.tmp c) (.av (.int .i64 d))),some (b,false)⟩
abbrev AD (a b:Nat):SOp:=.op ⟨some a,(.bslice false 1 1 [(.int .u8 0)] [(0,(1,(.tmp b)))]),none⟩
abbrev AE (a b c:Nat):SOp:=.op ⟨some a,(.bin .add (.tmp b) (.tmp c)),none⟩
abbrev AF (a b c d:Nat):SOp:=.op ⟨some a,(.idxS (.tmp c) (.tmp d)),some (b,true)⟩
abbrev AH (a b:Nat):SOp:=.op ⟨some a,(.b2s (.tmp b)),none⟩
abbrev AI (a b c:Nat):ad×Kd:=(⟨some a,(.faddr b (.tmp c)),none⟩,.pure)
abbrev AJ (a b c d e:Nat):ad×Kd:=(⟨some a,(.load false b (.tmp c)),none⟩,(.read d e))
abbrev AK (a b:Nat) (c:Int):SOp:=.op ⟨some a,(.bin .lss (.tmp b) (.av (.int .i64 c))),none⟩
abbrev AL (a b c d:Nat):SOp:=.op ⟨some a,(.call c [(.tmp d)]),some (b,false)⟩
abbrev AM (a b c d e:Nat):SOp:=.op ⟨some a,(.call b [(.tmp c),(.tmp d),(.tmp e)]),none⟩
abbrev AN (a b:Nat):SOp:=.op ⟨some a,(.bslice false 5 1 [(.str []),(.str []),(.int .i64 0),(.sl [] 0 (some 0)),(.sl [] 0 (some 0))] [(0,(5,(.tmp b)))]),none⟩
abbrev AO (a b c:Nat):SOp:=.op ⟨some a,(.app 1 5 88 [(.str []),(.str []),(.int .i64 0),(.sl [] 0 (some 0)),(.sl [] 0 (some 0))] (.tmp b) (.tmp c)),none⟩
abbrev AP (a b c d:Nat):SOp:=.op ⟨some a,(.faddr c (.tmp d)),some (b,false)⟩
abbrev AS (a b:Nat) (c:Int):SOp:=.op ⟨some a,(.bin .geq (.tmp b) (.av (.int .i64 c))),none⟩
abbrev AT (a:Nat):SOp:=.op ⟨some a,(.alloc [(.str []),(.str [])]),none⟩
abbrev AU (a b c d:Nat):SOp:=.op ⟨some a,(.load false c (.tmp d)),some (b,true)⟩
abbrev AX (a b:Nat):SOp:=.op ⟨some a,(.extract (.tmp b) 2),none⟩
abbrev AY (a b c:Nat):SOp:=.op ⟨some a,(.len false (.tmp c)),some (b,false)⟩
abbrev AZ (a b:Nat):SOp:=.op ⟨some a,(.conv .i64 (.tmp b)),none⟩
abbrev Ba (a b c:Nat):SOp:=.op ⟨some a,(.len true (.tmp c)),some (b,false)⟩
abbrev Bb (a b:Nat):SOp:=.op ⟨some a,(.call b []),none⟩
abbrev Bc (a b c:Nat):SOp:=.op ⟨some a,(.un .not (.tmp c)),some (b,false)⟩
abbrev Bd (a b c:Nat) (d:Int):SOp:=.op ⟨some a,(.bin .eql (.tmp c) (.av (.int .i64 d))),some (b,true)⟩
abbrev Be (a b c d:Nat):SOp:=.op ⟨some a,(.idxS (.tmp c) (.tmp d)),some (b,false)⟩
abbrev Bf (a b c:Nat):SOp:=.op ⟨some a,(.bin .eql (.tmp c) (.av (.int .u8 32))),some (b,true)⟩
abbrev Bg (a b c:Nat):SOp:=.op ⟨some a,(.len false (.tmp c)),some (b,true)⟩
abbrev Bh (a b c:Nat):SOp:=.op ⟨some a,(.app 1 1 16 [(.str [])] (.tmp b) (.tmp c)),none⟩
abbrev Bi (a b c d:Nat):SOp:=.op ⟨some a,(.faddr c (.tmp d)),some (b,true)⟩
abbrev Bj (a b c:Nat) (d:Int) (e:Nat):SOp:=.op ⟨some a,(.call b [(.tmp c),(.av (.int .i64 d)),(.tmp e)]),none⟩
abbrev Bk (a:Nat):SOp:=.op ⟨some a,(.alloc [(.sl [] 0 (some 0)),(.int .i64 0),(.int .i64 0)]),none⟩
abbrev Bl (a b:Nat):SOp:=.op ⟨some a,(.bin .sub (.tmp b) (.av (.int .u8 48))),none⟩
abbrev Bm (a b c:Nat) (d:Int):SOp:=.op ⟨some a,(.bin .lss (.tmp c) (.av (.int .i64 d))),some (b,true)⟩
abbrev Bn (a b c:Nat):SOp:=.op ⟨some a,(.app 1 2 32 [(.str []),(.str [])] (.tmp b) (.tmp c)),none⟩
abbrev Bo (a b c d e:Nat):SOp:=.op ⟨some a,(.iaddr c (.tmp d) (.tmp e)),some (b,true)⟩
abbrev Bp (a b c d e:Nat):ad×Kd:=(⟨some a,(.call b [(.tmp c)]),none⟩,(.read d e))
abbrev Bq (a b:Nat):SOp:=.op ⟨some a,(.bslice false 1 1 [(.str [])] [(0,(1,(.tmp b)))]),none⟩
abbrev Br (a:Nat):SOp:=.op ⟨some a,(.alloc [(.str []),(.sl [] 0 (some 0))]),none⟩
abbrev Bs (a:Nat):SOp:=.op ⟨some a,(.bslice false 1 1 [(.str [])] [(0,(1,(.av (.str [100,101,115,99,114,105,112,116,105,111,110]))))]),none⟩
abbrev Bt (a:Nat):SOp:=.op ⟨some a,(.alloc [(.int .i64 0),(.str []),(.sl [] 0 (some 0))]),none⟩
abbrev Bu (a b:Nat):SOp:=.op ⟨some a,(.bslice false 1 1 [(.int .i64 0)] [(0,(1,(.tmp b)))]),none⟩
abbrev Bv (a b c:Nat):SOp:=.op ⟨some a,(.bin .neq (.tmp b) (.tmp c)),none⟩
abbrev Bw (a b c:Nat) (d:Int):SOp:=.op ⟨some a,(.idxS (.tmp c) (.av (.int .i64 d))),some (b,false)⟩
abbrev Bx (a b:Nat) (c:Int):SOp:=.op ⟨some a,(.callv (.tmp b) [(.av (.int .i64 c))]),none⟩
abbrev By (a b c:Nat) (d:Int):SOp:=.op ⟨some a,(.bin .rem (.tmp c) (.av (.int .i64 d))),some (b,true)⟩
abbrev Bz (a b:Nat) (c:Int):SOp:=.op ⟨some a,(.idxS (.tmp b) (.av (.int .i64 c))),none⟩
abbrev B0 (a b c:Nat) (d:Int):SOp:=.op ⟨some a,(.bin .geq (.tmp c) (.av (.int .i64 d))),some (b,false)⟩
abbrev B1 (a b:Nat):SOp:=.op ⟨some a,(.bin .eql (.tmp b) (.av (.int .u8 0))),none⟩
abbrev B3 (a b:Nat):SOp:=.op ⟨some a,(.bslice false 1 1 [(.sl [] 0 (some 0))] [(0,(1,(.tmp b)))]),none⟩
abbrev B4 (a b c:Nat):SOp:=.op ⟨some a,(.app 1 1 24 [(.sl [] 0 (some 0))] (.tmp b) (.tmp c)),none⟩
abbrev B5 (a b c:Nat) (d:Int):SOp:=.op ⟨some a,(.bin .sub (.tmp c) (.av (.int .i64 d))),some (b,false)⟩
abbrev B6 (a b c:Nat) (d:Int):SOp:=.op ⟨some a,(.bin .sub (.tmp c) (.av (.int .i64 d))),some (b,true)⟩
abbrev B7 (a b c:Nat):ad×Kd:=(⟨some a,(.bin .add (.tmp b) (.tmp c)),none⟩,.pure)
abbrev B8 (a b c d:Nat):SOp:=.op ⟨some a,(.load true c (.tmp d)),some (b,true)⟩
abbrev B9 (a b c d e:Nat):ad×Kd:=(⟨some a,(.slV 1 (.tmp b) (some (.tmp c)) none none),none⟩,(.read d e))
abbrev BA (a b c d e:Nat):SOp:=.op ⟨some a,(.call c [(.tmp d),(.tmp e)]),some (b,true)⟩
abbrev BB (a b:Nat):SOp:=.op ⟨some a,(.bslice false 4 1 [(.str []),(.int .i64 0),(.bool false),(.bool false)] [(0,(4,(.tmp b)))]),none⟩
abbrev BC (a b c:Nat):SOp:=.op ⟨some a,(.app 1 4 32 [(.str []),(.int .i64 0),(.bool false),(.bool false)] (.tmp b) (.tmp c)),none⟩
abbrev BD (a b c d:Nat):SOp:=.op ⟨some a,(.bin .leq (.tmp c) (.tmp d)),some (b,true)⟩
abbrev BE (a b c d:Nat):SOp:=.op ⟨some a,(.bin .neq (.tmp c) (.tmp d)),some (b,false)⟩
abbrev BF (a b c:Nat) (d:Int):SOp:=.op ⟨some a,(.bin .lss (.tmp c) (.av (.int .i64 d))),some (b,false)⟩
abbrev BG (a b c:Nat) (d:Int):SOp:=.op ⟨some a,(.callv (.tmp c) [(.av (.int .i64 d))]),some (b,false)⟩
abbrev BH (a b c:Nat):SOp:=.op ⟨some a,(.slS (.tmp b) (some (.tmp c)) none),none⟩
abbrev BI (a b c:Nat) (d e:Int):SOp:=.op ⟨some a,(.slS (.tmp c) (some (.av (.int .i64 d))) (some (.av (.int .i64 e)))),some (b,false)⟩
abbrev BJ (a b:Nat):SOp:=.op ⟨some a,(.bin .eql (.tmp b) (.av (.str []))),none⟩
abbrev BK (a b c d:Nat):SOp:=.op ⟨some a,(.slS (.tmp b) (some (.tmp c)) (some (.tmp d))),none⟩
abbrev BL (a b:Nat):SOp:=.op ⟨some a,(.bslice false 2 1 [(.str []),(.str [])] [(0,(2,(.tmp b)))]),none⟩
abbrev BM (a b c:Nat):SOp:=.op ⟨some a,(.slV 2 (.tmp b) none (some (.tmp c)) none),none⟩
abbrev BN (a b:Nat):SOp:=.op ⟨some a,(.bin .geq (.tmp b) (.av (.int .u8 65))),none⟩
abbrev BO (a b c:Nat):SOp:=.op ⟨some a,(.bin .eql (.tmp c) (.av (.int .u8 32))),some (b,false)⟩
abbrev BP (a:Nat):SOp:=.op ⟨some a,(.mv (.av (.int .u8 0))),none⟩
abbrev BQ (a b c d:Nat):ad×Kd:=(⟨some a,(.bslice false 1 1 [(.str [])] [(0,(1,(.tmp b)))]),none⟩,(.read c d))
abbrev BR (a b:Nat):SOp:=.op ⟨some a,(.bslice false 2 1 [(.str []),(.sl [] 0 (some 0))] [(0,(2,(.tmp b)))]),none⟩
abbrev BS (a b c:Nat):SOp:=.op ⟨some a,(.app 1 2 40 [(.str []),(.sl [] 0 (some 0))] (.tmp b) (.tmp c)),none⟩
abbrev BT (a b c:Nat) (d:Int):SOp:=.op ⟨some a,(.bin .add (.tmp c) (.av (.int .i64 d))),some (b,false)⟩
abbrev BU (a b c:Nat):SOp:=.op ⟨some a,(.app 1 1 8 [(.int .i64 0)] (.tmp b) (.tmp c)),none⟩
abbrev LSO:=List SOp
abbrev BV:List Bool:=[true,false]
abbrev BW:List Bool:=[true,false,false]
abbrev BX:List Bool:=[true,false,false,false]
abbrev BY:List Bool:=[true,false,false,false,false]
abbrev BZ:List Bool:=[true,false,false,false,false,false]
abbrev Ca:List Bool:=[true,true,false]
abbrev Cb:List Bool:=[true,false,false,false,false,false,false]
abbrev Cc:List Bool:=[true,true,false,false,false]
abbrev Cd:List Bool:=[true,true,false,false,false,false,false]
abbrev Ce:List Bool:=[true,false,false,false,false,false,false,false]
abbrev Cf:List Bool:=[true,true,false,false]
abbrev Cg:List Bool:=[true,true,true,false]
abbrev Ch:List Bool:=[false,false,false,false,false]
abbrev Ci:List Bool:=[false,false,false,false,false,false,false]
abbrev Cj:List Bool:=[false,false,false,false,false,false,false,false]
abbrev Ck:List Bool:=[false,false]
abbrev Cl:List Bool:=[true,false,false,false,false,false,false,false,false]
abbrev Cm:List Bool:=[true,true,false,false,false,false,false,false]
abbrev Co:List Bool:=[true,true,false,false,false,false,false,false,false]
abbrev Cp:List Bool:=[true,true,true,false,false]
abbrev Cq:List Bool:=[true,true,true,false,false,false,false,false,false]
abbrev Cr:List Bool:=[true,true,false,false,false,false]
abbrev Cs:List Bool:=[true,true,false,false,false,false,false,false,false,false]
abbrev Ct:List Bool:=[true,false,false,false,false,false,false,false,false,false,false]
abbrev Cu:List Bool:=[true,false,false,false,false,false,false,false,false,false,false,false]
abbrev Cv:List Bool:=[true,false,false,false,false,false,false,false,false,false]
abbrev Cw:List Bool:=[false,false,false,false,false,false]
abbrev Cx:List Bool:=[true,true,true,false,false,false,false,false,false,false,false,false]
attribute [push_cast] Aa Ab Ac Ad Ae Af Ag Ah Ai Aj Ak Al Am An Ao Ap Aq Ar As Au Aw Ax Ay Az A0 A3 A4 A5 A6 A7 A8 A9 AA AB AC AD AE AF AH AI AJ AK AL AM AN AO AP AS AT AU AX AY AZ Ba Bb Bc Bd Be Bf Bg Bh Bi Bj Bk Bl Bm Bn Bo Bp Bq Br Bs Bt Bu Bv Bw Bx By Bz B0 B1 B3 B4 B5 B6 B7 B8 B9 BA BB BC BD BE BF BG BH BI BJ BK BL BM BN BO BP BQ BR BS BT BU BV BW BX BY BZ Ca Cb Cc Cd Ce Cf Cg Ch Ci Cj Ck Cl Cm Co Cp Cq Cr Cs Ct Cu Cv Cw Cx
section
variable {P:Program} {w0:World} {S0:Nat→Prop} {N:Nat} {own:Nat→Nat→Nat} {Q:Exit→Tm→List Blk→Prop} {T:Tm} {L:List Blk}
theorem Rel.none_of {E:Env} {w:World} (h:Rel w0 S0 E L w):∀ i,L.length≤i→E.loc i=none∧E.tok i=none:=fun i hi=>⟨h.fresh i hi,h.tkfresh i hi⟩
theorem St.cut {E0 E:Env} {a:Act} {w:World} {T':Tm} {L':List Blk} {B:Nat} (h0:E0.le E) (hB:∀ i,B≤i→E0.loc i=none∧E0.tok i=none) (h:St w0 S0 N E T L a w) (hc:Cut B T' L' T L):∃ E',E0.le E'∧St w0 S0 N E' T' L' a w:=by
 obtain ⟨hs,X,rfl,hlen,hx⟩:=hc
 rcases hx with rfl|⟨h1,h2⟩
 · exact ⟨E,h0,by simpa using h.1,h.2.1.sub hs,h.2.2⟩
 · refine ⟨E.res L'.length id,Np h0 hB hlen id (fun _ _=>rfl),h.1.cut h2,fun t v hv=>?_,h.2.2⟩
   have:=(h.2.1.sub hs) t v hv
   refine VR.cut (E:=E) (E':=E.res L'.length id) (p:=fun i=>decide (i<L'.length)) (fun _ _ _ x=>x) (fun i c hi hc=>?_) (fun i c hi hc=>?_) v _ (h1 _ (Lq hv)) this
   · rw [Env.res_loc (by simpa using hi)];exact hc
   · rw [Env.res_tok (by simpa using hi)];exact hc
def Nxt (B n:Nat) (I:Nat→Tm→List Blk→Prop) (T1:Tm) (L1:List Blk):Prop:=∃ m T2 L2,m<n∧Cut B T2 L2 T1 L1∧I m T2 L2
def Mid (B:Nat) (R:Tm→List Blk→Prop) (T1:Tm) (L1:List Blk):Prop:=∃ T2 L2,Cut B T2 L2 T1 L1∧R T2 L2
theorem az {B n:Nat} {I:Nat→Tm→List Blk→Prop} {T1:Tm} {L1:List Blk} (m:Nat) (T2:Tm) (L2:List Blk) (h1:m<n) (h2:Cut B T2 L2 T1 L1) (h3:I m T2 L2):Nxt B n I T1 L1:=⟨m,T2,L2,h1,h2,h3⟩
theorem fC {B:Nat} {R:Tm→List Blk→Prop} {T1:Tm} {L1:List Blk} (T2:Tm) (L2:List Blk) (h2:Cut B T2 L2 T1 L1) (h3:R T2 L2):Mid B R T1 L1:=⟨T2,L2,h2,h3⟩
theorem aI {x:cc} (I:Nat→Tm→List Blk→Prop) {n0:Nat} {T0:Tm} {L0:List Blk} (hc0:Cut L.length T0 L0 T L) (h0:I n0 T0 L0)
   (round:∀ n T' L',I n T' L'→AW P N own x (Q1 (Nxt L.length n I) Q) T' L'):AW P N own (.loop x) Q T L:=fun c hc w0 S0 E a w hst=>by
 classical
 obtain ⟨c1,rfl,h1⟩:=Tu hc
 have hB:=hst.1.none_of
 let J:Act→World→Nat→Prop:=fun a w n=>∃ E' T' L',E.le E'∧I n T' L'∧St w0 S0 N E' T' L' a w
 have least:∀ a w,∃ m,(∃ n,J a w n)→J a w m∧∀ k,J a w k→m≤k:=fun a w=>by
   by_cases h:∃ n,J a w n
   · obtain ⟨n,hn⟩:=h
     obtain ⟨m,h1,h2⟩:=NQ (J a w) n hn
     exact ⟨m,fun _=>⟨h1,h2⟩⟩
   · exact ⟨0,fun h'=>absurd h' h⟩
 let μ:Act→World→Nat:=fun a w=>Classical.choose (least a w)
 have hμ:∀ a w,(∃ n,J a w n)→J a w (μ a w)∧∀ k,J a w k→μ a w≤k:=fun a w=>Classical.choose_spec (least a w)
 obtain ⟨E1,e1,e2⟩:=hst.cut (.refl E) hB hc0
 refine wp_loop (fun a w=>∃ n,J a w n) μ ⟨n0,E1,_,_,e1,h0,e2⟩ fun a w hJ=>?_
 obtain ⟨⟨E',T',L',g1,g2,g3⟩,_⟩:=hμ a w hJ
 refine wp_mono (round _ T' L' g2 c1 h1 w0 S0 E' a w g3) fun e a' w' ⟨E'',T'',L'',k1,k2,k3⟩=>?_
 cases e
 · obtain ⟨m,T2,L2,hm,hcut,hI⟩:=k2
   obtain ⟨E3,q1,q2⟩:=k3.cut (g1.trans k1) hB hcut
   have hJ':J a' w' m:=⟨E3,T2,L2,q1,hI,q2⟩
   exact ⟨⟨m,hJ'⟩,Nat.lt_of_le_of_lt ((hμ a' w' ⟨m,hJ'⟩).2 m hJ') hm⟩
 all_goals exact ⟨E'',T'',L'',g1.trans k1,k2,k3⟩
theorem qt {x y:cc} (R:Tm→List Blk→Prop) (h:AW P N own x (Q1 (Mid L.length R) Q) T L) (hq:∀ T2 L2,R T2 L2→L.length≤L2.length→AW P N own y Q T2 L2):AW P N own (.seq x y) Q T L:=fun c hc w0 S0 E a w hst=>by
 obtain ⟨c1,c2,rfl,h1,h2⟩:=QM hc
 refine wp_seq (wp_mono (h c1 h1 w0 S0 E a w hst) fun e a' w' ⟨E',T',L',g1,g2,g3⟩=>?_)
 cases e
 · obtain ⟨T2,L2,k1,k2⟩:=g2
   obtain ⟨E3,q1,q2⟩:=g3.cut g1 hst.1.none_of k1
   obtain ⟨_,X,_,hlen,_⟩:=k1
   exact wp_mono (hq T2 L2 k2 hlen c2 h2 w0 S0 E3 a' w' q2) fun e a'' w'' ⟨E4,T4,L4,k1,k2,k3⟩=>⟨E4,T4,L4,q1.trans k1,k2,k3⟩
 all_goals exact ⟨E',T',L',g1,g2,g3⟩
theorem TR.cons {E:Env} {a:Act} {t:Nat} {v:AV} (r:TR E T a) (hv:VR E v (a.tmps.getD t undef)):TR E ((t,v)::T) a:=fun t' v' h=>by
 simp only [aM] at h
 split at h
 · rename_i e;subst e;simp at h;subst h;exact hv
 · exact r t' v' h
theorem cM {lc:cc} (t sz:Nat) {l:List AV} {n:Nat} (h1:aM T t=some (.sl l n (some n))) (h2:l.length=n * sz) (h:AW P N own lc Q ((t,.gsl l n L.length sz)::T) (L++[.spare n sz])):AW P N own lc Q T L:=fun c hl w0 S0 E a w hst=>by
 obtain ⟨r1,r2⟩:=hst.1.addtok (n:=n) (sz:=sz) (lc:=none) Jj
 have hv:=hst.2.1 t _ h1
 have hT:=hst.2.1.mono r1
 refine wp_mono (h c hl w0 S0 _ a w ⟨r2,hT.cons ?_,hst.2.2⟩) fun e a' w' ⟨E',T1,L1,k1,k2,k3⟩=>⟨E',T1,L1,r1.trans k1,k2,k3⟩
 have hv':=VR.mono r1 _ _ hv
 generalize a.tmps.getD t undef=v at hv'
 simp only [VR] at hv' ⊢
 obtain ⟨p,c',q1,q2,q3,q4⟩:=hv'
 exact ⟨p,c',q1,q2,h2,q4,⟨n,sz,none⟩,by simp,Nat.le_refl _,fun _=>⟨rfl,fun _=>q3 n rfl,by simp⟩⟩
theorem WM {lc:cc} (t:Nat) {i off n sz:Nat} (h1:aM T t=some (.lsl i off n none sz)) (h:∀ cp,n≤cp→AW P N own lc Q ((t,.lsl i off n (some cp) sz)::T) L):AW P N own lc Q T L:=fun c hl w0 S0 E a w hst=>by
 have hv:=hst.2.1 t _ h1
 simp only [VR] at hv
 obtain ⟨k,rc,d,q1,q2,q3,q4,_,q6⟩:=hv
 refine h rc q4 c hl w0 S0 E a w ⟨hst.1,hst.2.1.cons ?_,hst.2.2⟩
 simp only [VR]
 exact ⟨k,rc,d,q1,q2,q3,q4,fun k hk=>by cases hk;rfl,q6⟩
theorem WL {lc:cc} (t:Nat) {i off n sz cp:Nat} {l:List AV} (h1:aM T t=some (.lsl i off n (some cp) sz)) (hL:L[i]?=some (.cells l)) (hcp:0<cp) (h:AW P N own lc Q T (L.set i (.cells (l++List.replicate (off+cp * sz - l.length) .undef)))):AW P N own lc Q T L:=fun c hl w0 S0 E a w hst=>by
 have hv:=hst.2.1 t _ h1
 simp only [VR] at hv
 obtain ⟨k,rc,d,q1,q2,q3,q4,q5,q6⟩:=hv
 have:=q5 cp rfl;subst this
 obtain ⟨k',cs,ty,fr,b1,b2,b3,b4,b5,b6⟩:=hst.1.blk i _ hL
 rw [q1] at b1;cases b1
 refine h c hl w0 S0 E a w ⟨hst.1.turn hL rfl q1 rfl (fun _ _=>rfl) rfl rfl rfl ?_ (by simp),hst.2.1,hst.2.2⟩
 refine ⟨k,cs,ty,fr,q1,b2,b3,by simp;omega,fun j a ha=>?_,b6⟩
 rw [List.getElem?_append] at ha
 split at ha
 · exact b5 j a ha
 · have hj:j - l.length<off+rc * sz - l.length:=by
     have:=(List.getElem?_eq_some_iff.1 ha).1;simpa using this
   rw [List.getElem?_replicate,if_pos hj] at ha
   cases ha
   have hlt:k.off+j<cs.size:=by omega
   exact ⟨cs[k.off+j],Array.getElem?_eq_getElem hlt,by simp [VR]⟩
theorem ay {x:Opd} {y z:cc} {p:Prop} [Decidable p] (hx:evX T x=some (.bool (decide p))) (ht:p→AW P N own y Q T L) (hf:¬ p→AW P N own z Q T L):AW P N own (.cond x y z) Q T L :=
 aA hx (fun e=>ht (of_decide_eq_true e)) (fun e=>hf (of_decide_eq_false e))
theorem ax {x:Opd} {y z:cc} {p:Prop} [Decidable p] (hx:evX T x=some (.bool (!decide p))) (ht:¬ p→AW P N own y Q T L) (hf:p→AW P N own z Q T L):AW P N own (.cond x y z) Q T L :=
 aA hx (fun e=>ht (of_decide_eq_false (by simpa using e))) (fun e=>hf (of_decide_eq_true (by simpa using e)))
end
section
variable {P:Program} {K:Tm→Prop} {L L1:List Blk} {Ls:List (List Blk)} {p:AV} {d:Option Nat} {op:LOp} {rest:List ad} {T:Tm} {t:Nat} {b:Bool} {al:Option Nat} {n:Nat}
def Um (L:List Blk) (k:AV→Prop):Option (Prop×AV×List Blk)→Prop
 | some (c,av,L')=>c∧L'=L∧k av
 | none=>False
theorem Se {k:AV→Prop} {c:Prop} {av:AV} {L':List Blk}:Um L k (some (c,av,L'))=(c∧L'=L∧k av):=rfl
def Qh (L L1:List Blk) (k:AV→Prop):Option (Prop×AV×List Blk)→Option (Prop×AV×List Blk)→Prop
 | some (c,av,L'),some (c2,av2,L2)=>c∧L'=L∧c2∧av2=av∧L2=L1∧k av
 | _,_=>False
theorem Sd {k:AV→Prop} {c c2:Prop} {av av2:AV} {L' L2:List Blk}:Qh L L1 k (some (c,av,L')) (some (c2,av2,L2))=(c∧L'=L∧c2∧av2=av∧L2=L1∧k av):=rfl
def WJ (P:Program) (f:FuncId) (L:List Blk) (k:AV→Prop):Option (List AV)→Prop
 | some args=>∃ v,ao P f args L (fun av L'=>av=v∧L'=L)∧k v
 | none=>False
def VG (P:Program) (f:FuncId) (L L1:List Blk) (k:AV→Prop):Option (List AV)→Prop
 | some args=>∃ v,ao P f args L (fun av L'=>av=v∧L'=L)∧ao P f args L1 (fun av L'=>av=v∧L'=L1)∧k v
 | none=>False
def Pl (b:Bool) (y n:Prop):Option AV→Prop
 | some (.bool x)=>if x=b then y else n
 | some (.tup [])=>n
 | _=>False
theorem Sg {b x:Bool} {y n:Prop}:Pl b y n (some (.bool x))=if x=b then y else n:=rfl
theorem Uo {b:Bool} {y n:Prop}:Pl b y n (some (.tup []))=n:=rfl
def VU (P:Program) (f:FuncId) (args:List AV) (L L1:List Blk) (k:AV→Prop):Prop:=∃ v,ao P f args L (fun av L'=>av=v∧L'=L)∧ao P f args L1 (fun av L'=>av=v∧L'=L1)∧k v
theorem aL {f:FuncId} {args:List AV} {k:AV→Prop} {v:AV} (h:ao P f args L (fun av L'=>av=v∧L'=L)) (h1:ao P f args L1 (fun av L'=>av=v∧L'=L1)) (hk:k v):VU P f args L L1 k:=⟨v,h,h1,hk⟩
theorem WI {f:FuncId} {k:AV→Prop} {args:List AV}:WJ P f L k (some args)=Uw P f args L k:=rfl
theorem WH {f:FuncId} {k:AV→Prop} {args:List AV}:VG P f L L1 k (some args)=VU P f args L L1 k:=rfl
theorem Uy {o:ad} {v:AV} (h:o.op.isCall=false):AQv P o T L v=(match an T L o.op with|some (c,av,L')=>c∧av=v∧L'=L|none=>False):=by
 obtain ⟨d,op,g⟩:=o
 cases op<;>simp only [LOp.isCall,Bool.true_eq_false] at h<;>rfl
def MC (P:Program) (L:List Blk) (k:AV→Prop) (T:Tm) (op:LOp):Prop :=
 match op with
 | .call f xs=>WJ P f L k (fw T xs)
 | .callv f xs=>∃ v,AQv P ⟨none,.callv f xs,none⟩ T L v∧k v
 | lo=>Um L k (an T L lo)
def Uj (P:Program) (L L1:List Blk) (k:AV→Prop) (T:Tm) (op:LOp):Prop :=
 match op with
 | .call f xs=>VG P f L L1 k (fw T xs)
 | .callv f xs=>∃ v,(AQv P ⟨none,.callv f xs,none⟩ T L v∧AQv P ⟨none,.callv f xs,none⟩ T L1 v)∧k v
 | lo=>Qh L L1 k (an T L lo) (an T L1 lo)
def AGK (P:Program) (K:Tm→List Blk→Prop) (Ls:List (List Blk)) (H:List iL) (rest:List (ad×Kd)) (d:Option Nat) (T:Tm) (av:AV):Prop:=AG P K rest Ls H (bU d av T)
def AGR (P:Program) (K:Tm→List Blk→Prop) (Ls:List (List Blk)) (H:List iL) (rest:List (ad×Kd)) (f:Nat) (o:ad) (T:Tm) (av:AV):Prop:=AG P K rest Ls (PR f o T av H) (bU o.dst av T)
def AGE (P:Program) (K:Tm→List Blk→Prop) (Ls:List (List Blk)) (H:List iL) (rest:List (ad×Kd)) (d:Option Nat) (T:Tm) (av:AV) (L2:List Blk):Prop:=vd P L2 H∧AG P K rest (L2::Ls) (F3 H) (bU d av T)
def Ul (k:AV→List Blk→Prop):Option (Prop×AV×List Blk)→Prop
 | some (c,av,L2)=>c∧k av L2
 | none=>False
theorem Sc {k:AV→List Blk→Prop} {c:Prop} {av:AV} {L2:List Blk}:Ul k (some (c,av,L2))=(c∧k av L2):=rfl
def IsV (v av:AV):Prop:=av=v
theorem Wf {o:ad} {T:Tm} {v:AV} {H:List iL}:PR 0 o T v H=H:=rfl
theorem We {f:Nat} {o:ad} {T:Tm} {v:AV} {H:List iL}:PR (f+1) o T v H=(f+1,o,T,v)::H:=rfl
theorem TW:F3 []=[]:=rfl
theorem TV {y:ad×Tm×AV} {H:List iL}:F3 ((1,y)::H)=F3 H:=rfl
theorem Wp {y:ad×Tm×AV} {H:List iL}:F3 ((n+2,y)::H)=(n+1,y)::F3 H:=rfl
theorem Di {k:AV→Prop}:(∃ v,AQ P ⟨d,op,none⟩ T L v∧k v)=MC P L k T op:=by
 by_cases h:op.isCall=false
 · have e:MC P L k T op=Um L k (an T L op):=by cases op<;>simp only [LOp.isCall,Bool.true_eq_false] at h<;>rfl
   rw [e]
   simp only [AQ,Uy (o:=⟨d,op,none⟩) h]
   rcases an T L op with _|⟨c,av,L'⟩
   · simp [Um]
   · simp only [Um,eq_iff_iff]
     exact ⟨fun ⟨v,⟨h1,h2,h3⟩,h4⟩=>⟨h1,h3,h2 ▸ h4⟩,fun ⟨h1,h2,h3⟩=>⟨av,⟨h1,rfl,h2⟩,h3⟩⟩
 · cases op<;>simp only [LOp.isCall,not_true_eq_false] at h
   · rename_i f xs
     simp only [AQ,AQv,MC]
     rcases fw T xs with _|args
     · simp [WJ]
     · rfl
   · rfl
theorem VH {k:AV→Prop}:(∃ v,(AQ P ⟨d,op,none⟩ T L v∧AQ P ⟨d,op,none⟩ T L1 v)∧k v)=Uj P L L1 k T op:=by
 by_cases h:op.isCall=false
 · have e:Uj P L L1 k T op=Qh L L1 k (an T L op) (an T L1 op):=by cases op<;>simp only [LOp.isCall,Bool.true_eq_false] at h<;>rfl
   rw [e]
   simp only [AQ,Uy (o:=⟨d,op,none⟩) h]
   rcases an T L op with _|⟨c,av,L'⟩<;>rcases an T L1 op with _|⟨c2,av2,L2⟩
   · simp [Qh]
   · simp [Qh]
   · simp [Qh]
   · simp only [Qh,eq_iff_iff]
     exact ⟨fun ⟨v,⟨⟨h1,h2,h3⟩,h4,h5,h6⟩,h7⟩=>⟨h1,h3,h4,h5.trans h2.symm,h6,h2 ▸ h7⟩,fun ⟨h1,h2,h3,h4,h5,h6⟩=>⟨av,⟨⟨h1,rfl,h2⟩,h3,h4,h5⟩,h6⟩⟩
 · cases op<;>simp only [LOp.isCall,not_true_eq_false] at h
   · rename_i f xs
     simp only [AQ,AQv,Uj]
     rcases fw T xs with _|args
     · simp [VG]
     · simp only [VG,and_assoc]
   · rfl
theorem Qo {k:AV→Prop} {g:ad→AV→Prop} (hg:∀ v,g ⟨d,op,some (t,b)⟩ v=match aM T t with|some (.bool x)=>if x=b then g ⟨d,op,none⟩ v else v=.tup []|some (.tup [])=>v=.tup []|_=>False) :
   (∃ v,g ⟨d,op,some (t,b)⟩ v∧k v)=Pl b (∃ v,g ⟨d,op,none⟩ v∧k v) (k (.tup [])) (aM T t):=by
 simp only [hg]
 rcases aM T t with _|x
 · simp [Pl]
 · cases x<;>simp only [Pl,false_and,exists_false]
   · rename_i x
     by_cases e:x=b
     · simp [e]
     · simp [e]
   · rename_i l
     cases l with
     | nil=>simp
     | cons _ _=>simp
theorem WP {K:Tm→List Blk→Prop} {H:List iL}:AG P K [] (L::Ls) H T=K T L:=rfl
theorem VJ {K:Tm→List Blk→Prop} {H:List iL} {r:List (ad×Kd)}:AG P K ((⟨d,op,none⟩,.pure)::r) (L::Ls) H T=MC P L (AGK P K (L::Ls) H r d T) T op:=Di
theorem UD {K:Tm→List Blk→Prop} {H:List iL} {r:List (ad×Kd)}:AG P K ((⟨d,op,some (t,b)⟩,.pure)::r) (L::Ls) H T=Pl b (MC P L (AGK P K (L::Ls) H r d T) T op) (AGK P K (L::Ls) H r d T (.tup [])) (aM T t):=by
 rw [← Di (d:=d)]
 exact Qo (g:=fun o v=>AQ P o T L v) fun v=>rfl
theorem UC {K:Tm→List Blk→Prop} {H:List iL} {r:List (ad×Kd)} {f:Nat}:AG P K ((⟨d,op,none⟩,.read 0 f)::r) (L::Ls) H T=MC P L (AGR P K (L::Ls) H r f ⟨d,op,none⟩ T) T op:=by
 rw [← Di (d:=d)]
 simp only [AG,List.take_succ_cons,List.take_zero,List.mem_singleton,forall_eq,AGR]
theorem Sk {K:Tm→List Blk→Prop} {H:List iL} {r:List (ad×Kd)} {f:Nat}:AG P K ((⟨d,op,some (t,b)⟩,.read 0 f)::r) (L::Ls) H T=Pl b (MC P L (AGR P K (L::Ls) H r f ⟨d,op,some (t,b)⟩ T) T op) (AGR P K (L::Ls) H r f ⟨d,op,some (t,b)⟩ T (.tup [])) (aM T t):=by
 rw [← Di (d:=d)]
 simp only [AG,List.take_succ_cons,List.take_zero,List.mem_singleton,forall_eq]
 exact Qo (g:=fun o v=>AQ P o T L v) (k:=AGR P K (L::Ls) H r f ⟨d,op,some (t,b)⟩ T) fun v=>rfl
theorem UB {K:Tm→List Blk→Prop} {H:List iL} {r:List (ad×Kd)} {f:Nat}:AG P K ((⟨d,op,none⟩,.read 1 f)::r) (L::L1::Ls) H T=Uj P L L1 (AGR P K (L::L1::Ls) H r f ⟨d,op,none⟩ T) T op:=by
 rw [← VH (d:=d)]
 simp only [AG,List.take_succ_cons,List.take_zero,List.mem_cons,List.not_mem_nil,or_false,forall_eq_or_imp,forall_eq,AGR]
def Xb (P:Program) (L:List Blk) (k:AV→List Blk→Prop) (T:Tm) (op:LOp):Prop :=
 match op with
 | .call f xs=>∃ v L2,EQv P ⟨none,.call f xs,none⟩ T L v L2∧k v L2
 | .callv f xs=>∃ v L2,EQv P ⟨none,.callv f xs,none⟩ T L v L2∧k v L2
 | lo=>Ul k (an T L lo)
theorem WQ {K:Tm→List Blk→Prop} {H:List iL} {r:List (ad×Kd)}:AG P K ((⟨d,op,none⟩,.eff)::r) (L::Ls) H T=Xb P L (AGE P K (L::Ls) H r d T) T op:=by
 simp only [AG,EQ]
 have key:∀ lo:LOp,lo.isCall=false→(∃ v L2,EQv P ⟨d,lo,none⟩ T L v L2∧AGE P K (L::Ls) H r d T v L2)=Ul (AGE P K (L::Ls) H r d T) (an T L lo):=fun lo hlo=>by
   have e:∀ v L2,EQv P ⟨d,lo,none⟩ T L v L2=(match an T L lo with|some (c,av,L')=>c∧av=v∧L'=L2|none=>False):=fun v L2=>by
     cases lo<;>simp only [LOp.isCall,Bool.true_eq_false] at hlo<;>rfl
   simp only [e]
   rcases an T L lo with _|⟨c,av,L'⟩
   · simp [Ul]
   · simp only [Ul,eq_iff_iff]
     exact ⟨fun ⟨v,L2,⟨h1,h2,h3⟩,h4⟩=>⟨h1,h2 ▸ h3 ▸ h4⟩,fun ⟨h1,h2⟩=>⟨av,L',⟨h1,rfl,rfl⟩,h2⟩⟩
 have key2:(∃ v L2,EQv P ⟨d,op,none⟩ T L v L2∧vd P L2 H∧AG P K r (L2::L::Ls) (F3 H) (bU d v T))=(∃ v L2,EQv P ⟨d,op,none⟩ T L v L2∧AGE P K (L::Ls) H r d T v L2):=rfl
 rw [key2]
 cases op
 case call=>rfl
 case callv=>rfl
 all_goals exact key _ rfl
theorem Sf:vd P L []=True:=rfl
theorem Qi {f:Nat} {v:AV} {H:List iL}:vd P L ((f,⟨d,op,none⟩,T,v)::H)=(MC P L (IsV v) T op∧vd P L H):=by
 rw [← Di (d:=d)]
 simp [vd,IsV]
theorem Pj {f:Nat} {v:AV} {H:List iL}:vd P L ((f,⟨d,op,some (t,b)⟩,T,v)::H)=(Pl b (MC P L (IsV v) T op) (IsV v (.tup [])) (aM T t)∧vd P L H):=by
 rw [← Di (d:=d),← Qo (g:=fun o v=>AQ P o T L v) (k:=IsV v) (d:=d) (op:=op) (t:=t) (b:=b) (T:=T) fun v=>rfl]
 simp [vd,IsV]
theorem aK {N:Nat} {own:Nat→Nat→Nat} {Q:Exit→Tm→List Blk→Prop} {qk:List (ad×Kd)} {ts:List ad} (h:AG P (ic P (Q .normal) ts) qk [L] [] T):AW P N own (.dregion qk ts) Q T L:=Mn h
end
abbrev bc (xs:List Int):List AV:=xs.map (AV.int .i64)
theorem py (xs:List Int):AV.frzL (xs.map (AV.int .i64))=xs.map (AV.int .i64):=by rw [AV.frzL_eq,List.map_map];rfl
theorem VY:IntKind.i64.wrap 0=0:=by decide
theorem VX:IntKind.i64.wrap 1=1:=by decide
theorem VW:IntKind.i64.wrap 2=2:=by decide
theorem UE:IntKind.i64.wrap (-1)=-1:=by decide
structure Nx (p:Prop):Prop where
 out:p
structure NxI (c p:Prop):Prop where
 out:c→p
theorem aO {c p:Prop} (h:c→p):NxI c p:=⟨h⟩
theorem aZ {p:Prop} (h:p):Nx p:=⟨h⟩
section
variable {P:Program} {L:List Blk} {body:List SOp} {d:Nat} {x:Opd} {k:Tm→Prop} {T:Tm} {c:Prop} [Decidable c] {p q:Bool}
theorem aQ (h:NxI (c) (GL P L body (IsX x q) T)) (hk:Nx (k ((d,.bool (decide c && q))::T))):GQ P L true body d x k T (decide c):=⟨q,fun e=>h.out (of_decide_eq_true e),hk.out⟩
theorem aD (h:NxI (¬ c) (GL P L body (IsX x q) T)) (hk:Nx (k ((d,.bool (!decide c && q))::T))):GQ P L true body d x k T (!decide c):=⟨q,fun e=>h.out (by simpa using e),hk.out⟩
theorem aR (h:NxI (¬ c) (GL P L body (IsX x q) T)) (hk:Nx (k ((d,.bool (decide c || q))::T))):GQ P L false body d x k T (decide c):=⟨q,fun e=>h.out (of_decide_eq_false e),hk.out⟩
theorem aE (h:NxI (c) (GL P L body (IsX x q) T)) (hk:Nx (k ((d,.bool (!decide c || q))::T))):GQ P L false body d x k T (!decide c):=⟨q,fun e=>h.out (by simpa using e),hk.out⟩
theorem aS (h:NxI (p=true) (GL P L body (IsX x q) T)) (hk:Nx (k ((d,.bool (p && q))::T))):GQ P L true body d x k T p:=⟨q,h.out,hk.out⟩
theorem aF (h:NxI (p=false) (GL P L body (IsX x q) T)) (hk:Nx (k ((d,.bool (p || q))::T))):GQ P L false body d x k T p:=⟨q,h.out,hk.out⟩
variable {a b:Prop} [Decidable a] [Decidable b]
theorem Ww:(decide a && decide b)=decide (a∧b):=(Bool.decide_and a b).symm
theorem Wu:(!decide a && decide b)=decide (¬ a∧b):=by simp [Bool.decide_and]
theorem Wv:(decide a && !decide b)=decide (a∧¬ b):=by simp [Bool.decide_and]
theorem Wt:(!decide a && !decide b)=decide (¬ a∧¬ b):=by simp [Bool.decide_and]
theorem WY:(decide a || decide b)=decide (a∨b):=(Bool.decide_or a b).symm
theorem WW:(!decide a || decide b)=decide (¬ a∨b):=by simp [Bool.decide_or]
theorem WX:(decide a || !decide b)=decide (a∨¬ b):=by simp [Bool.decide_or]
theorem WV:(!decide a || !decide b)=decide (¬ a∨¬ b):=by simp [Bool.decide_or]
end
attribute [push_cast] VD evD deg Option.map_some WE Xg WF VF Xf Xe Xa Wz W9 Wy WA Qv VK VL Uq Xh Q3 Xd GOp IsX Ww Wu Wv Wt WY WW WX WV Bool.true_and Bool.and_true Bool.false_and Bool.and_false Bool.true_or Bool.or_true Bool.false_or Bool.or_false Bool.not_true Bool.not_false
attribute [push_cast] VY VX VW UE AGK AGR AGE IsV Sc Wf We TW TV Wp WP VJ UD UC Sk UB WQ Xb Sf Qi Pj Se Sd WI WH Sg Uo MC Uj eq_self Qn Oj Uz Sj Qp CT Q2 Uk Uv Sh AOp an evX fw aM bU bin Vx Vw un eqA row gk AV.cells? bnd Q1 Qk aN KX Oj elems app Mf cY AV.frz AV.frzL py Option.bind_some Option.bind_none Option.map_some Option.map_none Option.getD_some Option.getD_none if_true if_false true_and and_true List.length_cons List.length_nil List.length_append List.length_map List.getElem?_cons_zero List.getElem?_cons_succ KD cj UV Gy VC List.cons_append List.nil_append List.append_nil Nat.add_zero Nat.zero_add Nat.mul_one Nat.one_mul Nat.zero_mul Nat.mul_zero List.getD_cons_zero List.getD_cons_succ Bool.not_true Bool.not_false decide_true decide_false forall_const not_true_eq_false not_false_eq_true ne_eq Bool.false_eq_true Bool.true_eq_false List.drop_zero List.drop_succ_cons List.take_succ_cons List.take_zero cw List.set_cons_zero List.set_cons_succ List.all_cons List.all_nil AV.one Bool.and_self Bool.and_true Bool.true_and false_implies implies_true decide_eq_true_eq decide_eq_false_iff_not Nat.sub_zero Int.toNat_zero Int.toNat_natCast Bool.not_eq_true' Bool.not_not Bool.not_eq_false
theorem Jl {P:Program} {f:FuncId} {args:List AV} {L:List Blk} {K:AV→List Blk→Prop} (h:ao P f (AV.frzL args) L K):ao P f args L K:=fun w0 S0 E w vs hR hv =>
 h w0 S0 E w vs hR (VRL.frz _ _ hv)
end Go.Proofs.YtolfghcbbpcciaaGreatDoor.Av
