/- Joined texts of the walk, made small by a program. -/
import Derived.Test.YtobihfefmlgaoaaGreatRk1
import Derived.Test.YtobihfefmlgaoaaGreatRk18
import Derived.Sort.Statements
set_option linter.unusedSimpArgs false
set_option linter.unusedVariables false
namespace Go.Proofs.YtobihfefmlgaoaaGreat.Av
open Go
abbrev Pth:=List (List UInt8)
abbrev INm:=Int×Pth
def aZ (l:List INm) (p:Pth):Nat:=(l.filter fun m=>decide (m.2≠[]/\m.2.tail=p)).length
structure rS (suf:Pth) (l:List INm):Prop where
 sne:suf≠[]
 nd:(l.map (·.2)).Nodup
 ids:(l.map (·.1)).Nodup
 un:∀ m∈l,suf <:+ m.2
 par:∀ m∈l,m.2=suf\/∃ k∈l,k.2=m.2.tail
theorem rS.nil {suf:Pth} (h:suf≠[]):rS suf []:=⟨h,by simp,by simp,fun _ h=>absurd h air,fun _ h=>absurd h air⟩
theorem ff {α β:Type} {f:α->β}:∀ {l:List α},(l.map f).Nodup->∀ {a b:α},a∈l->b∈l->f a=f b->a=b
 | [],_,a,_,h,_,_=>by cases h
 | x::l,h,a,b,ha,hb,e=>by
   rw [ahH,aiJ] at h;rcases ahR.1 ha with ea|ha'<;>rcases ahR.1 hb with eb|hb'
   ·rw [ea,eb]
   ·exact (h.1 (ahs.2 ⟨b,hb',by rw [<- e,ea]⟩)).elim
   ·exact (h.1 (ahs.2 ⟨a,ha',by rw [e,eb]⟩)).elim
   ·exact ff h.2 ha' hb' e
theorem yS {α β:Type} {f:α->β}:∀ {l:List α},(l.map f).Nodup->l.Nodup
 | [],_=>aj2
 | x::l,h=>by
   rw [ahH,aiJ] at h;exact aiJ.2 ⟨fun hm=>h.1 (ahs.2 ⟨x,hm,rfl⟩),yS h.2⟩
theorem rS.byP {suf:Pth} {l:List INm} (h:rS suf l) {a b:INm} (ha:a∈l) (hb:b∈l) (e:a.2=b.2):a=b:=ff h.nd ha hb e
theorem rS.byI {suf:Pth} {l:List INm} (h:rS suf l) {a b:INm} (ha:a∈l) (hb:b∈l) (e:a.1=b.1):a=b:=ff h.ids ha hb e
theorem rS.ne {suf:Pth} {l:List INm} (h:rS suf l) {m:INm} (hm:m∈l):m.2≠[]:=fun e=>h.sne (by
 have:=h.un m hm;rw [e] at this;exact List.suffix_nil.1 this)
theorem rS.anc {suf:Pth} {l:List INm} (h:rS suf l):∀ (n:Nat) (k:INm) (y x:Pth),y.length=n->k∈l->k.2=y++x->suf <:+ x->∃ m∈l,m.2=x
 | 0,k,y,x,hy,hk,e,_=>⟨k,hk,by rw [e,List.eq_nil_of_length_eq_zero hy];rfl⟩
 | n+1,k,y,x,hy,hk,e,hs=>by
   obtain ⟨a,y',rfl⟩:∃ a y',y=a::y':=by
    cases y with
    | nil=>simp at hy
    | cons a y'=>exact ⟨a,y',rfl⟩
   rcases h.par k hk with e2|⟨p,hp,e2⟩
   ·have h1:=hs.length_le;rw [<- e2,e] at h1;simp at h1;omega
   ·rw [e] at e2;exact h.anc n p y' x (by simpa using hy) hp e2 hs
theorem rS.ancS {suf:Pth} {l:List INm} (h:rS suf l) {k:INm} {x:Pth} (hk:k∈l) (hx:x <:+ k.2) (hs:suf <:+ x):∃ m∈l,m.2=x:=by
 obtain ⟨y,e⟩:=hx;exact h.anc y.length k y x rfl hk e.symm hs
theorem rS.added {suf:Pth} {l:List INm} (h:rS suf l) {id:Int} {p:Pth} (hid:∀ m∈l,m.1≠id) (hno:∀ m∈l,m.2≠p) (hp:p=suf\/∃ k∈l,k.2=p.tail) :
  rS suf (l++[(id,p)])/\aZ (l++[(id,p)]) p=0/\∀ q,aZ (l++[(id,p)]) q=aZ l q+if p.tail=q then 1 else 0:=by
 have hsp:suf <:+ p:=by
  rcases hp with rfl|⟨k,hk,e⟩
  ·exact ajk _
  ·have:=h.un k hk;rw [e] at this;exact this.trans (ajl p)
 have hpne:p≠[]:=fun e=>h.sne (by rw [e] at hsp;exact List.suffix_nil.1 hsp)
 have hk:∀ q,aZ (l++[(id,p)]) q=aZ l q+if p.tail=q then 1 else 0:=fun q=>by
  unfold aZ;rw [ajR,ahy]
  congr 1
  by_cases e:p.tail=q
  ·simp [e,hpne]
  ·simp [e]
 refine ⟨⟨h.sne,?_,?_,?_,?_⟩,?_,hk⟩
 ·rw [ahN,ajm];refine ⟨h.nd,by simp,?_⟩;intro a ha b hb e;obtain ⟨m,hm,rfl⟩:=ahs.1 ha;simp only [ahH,aif,ahI] at hb;exact hno m hm (e.trans hb)
 ·rw [ahN,ajm];refine ⟨h.ids,by simp,?_⟩;intro a ha b hb e;obtain ⟨m,hm,rfl⟩:=ahs.1 ha;simp only [ahH,aif,ahI] at hb;exact hid m hm (e.trans hb)
 ·intro m hm;rcases ahr.1 hm with hm|hm
  ·exact h.un m hm
  ·rw [ahI.1 hm];exact hsp
 ·intro m hm;rcases ahr.1 hm with hm|hm
  ·rcases h.par m hm with e|⟨k,hk,e⟩
   ·exact .inl e
   ·exact .inr ⟨k,aih _ hk,e⟩
  ·rw [ahI.1 hm];rcases hp with e|⟨k,hk,e⟩
   ·exact .inl e
   ·exact .inr ⟨k,aih _ hk,e⟩
 ·rw [hk p];have h0:¬ p.tail=p:=fun e=>by
   have:=congrArg List.length e;rw [ai1] at this;have:=ah8.2 hpne;omega
  rw [if_neg h0];have:aZ l p=0:=by
   unfold aZ;rw [ahX,List.filter_eq_nil_iff];intro m hm hc;simp only [decide_eq_true_eq] at hc;rcases h.par m hm with e|⟨k,hk,e⟩
   ·have:=hsp.length_le;rw [<- hc.2,e,ai1] at this;have:=ah8.2 h.sne;omega
   ·exact hno k hk (e.trans hc.2)
  rw [this]
theorem rS.deleted {suf:Pth} {l:List INm} (h:rS suf l) {id:Int} {p:Pth} (hm:(id,p)∈l) (h0:aZ l p=0) :
  rS suf (l.filter fun m=>decide (m.1≠id))/\∀ q,aZ (l.filter fun m=>decide (m.1≠id)) q+(if p.tail=q then 1 else 0)=aZ l q:=by
 have sub:∀ m∈l.filter (fun m=>decide (m.1≠id)),m∈l/\m.1≠id:=fun m hm=>by simpa using ah5.1 hm
 refine ⟨⟨h.sne,(List.filter_sublist.map _).nodup h.nd,(List.filter_sublist.map _).nodup h.ids,fun m hm=>h.un m (sub m hm).1,fun m hm'=>?_⟩,fun q=>?_⟩
 ·obtain ⟨hml,hmi⟩:=sub m hm';rcases h.par m hml with e|⟨k,hk,e⟩
  ·exact .inl e
  ·refine .inr ⟨k,?_,e⟩;simp only [ah5,decide_eq_true_eq];refine ⟨hk,fun e2=>?_⟩;have:k=(id,p):=h.byI hk hm e2;subst this;unfold aZ at h0;rw [ahX,List.filter_eq_nil_iff] at h0;exact h0 m hml (by simp only [decide_eq_true_eq];exact ⟨h.ne hml,e.symm⟩)
 ·have key:∀ l:List INm,(l.map (·.1)).Nodup->(id,p)∈l->p≠[]->aZ (l.filter fun m=>decide (m.1≠id)) q+(if p.tail=q then 1 else 0)=aZ l q:=by
   intro l
   induction l with
   | nil=>intro _ h;cases h
   | cons a l ih =>
     intro hn hm hpne;rw [ahH,aiJ] at hn;rcases ahR.1 hm with rfl|hm
     ·have:l.filter (fun m=>decide (m.1≠id))=l:=List.filter_eq_self.2 fun m hm=>by
       simp only [decide_eq_true_eq];intro e;exact hn.1 (ahs.2 ⟨m,hm,e⟩)
      rw [ajS (by simp),this];unfold aZ;by_cases e:p.tail=q
      ·rw [ajT (by simp [hpne,e]),if_pos e];rfl
      ·rw [ajS (by simp [e]),if_neg e];rfl
     ·have ha:a.1≠id:=fun e=>hn.1 (by rw [e];exact ajy (f:=(·.1)) hm)
      rw [ajT (by simpa using ha)];have:=ih hn.2 hm hpne;unfold aZ at this ⊢;by_cases e:a.2≠[]/\a.2.tail=q
      ·rw [ajT (by simpa using e),ajT (by simpa using e)];simp only [ahD];omega
      ·rw [ajS (by simpa using e),ajS (by simpa using e)];exact this
  exact key l h.ids hm (h.ne hm)
def ren (p q x:Pth):Pth:=if p <:+ x then x.take (x.length - p.length)++q else x
theorem gJ (p q y:Pth):ren p q (y++p)=y++q:=by
 unfold ren;rw [if_pos (List.suffix_append ..)];simp
theorem gc {p q x:Pth} (h:¬ p <:+ x):ren p q x=x:=by unfold ren;rw [if_neg h]
theorem Ur {α:Type} {f g:α->Bool} {a:α}:∀ {l:List α},l.Nodup->a∈l->(∀ k∈l,k≠a->f k=g k)->(l.filter f).length+(if g a=true then 1 else 0)=(l.filter g).length+(if f a=true then 1 else 0)
 | [],_,h,_=>by cases h
 | x::l,hn,hm,he=>by
   obtain ⟨h1,h2⟩:=aiJ.1 hn;by_cases hx:x=a
   ·subst hx;have:l.filter f=l.filter g:=List.filter_congr fun k hk=>he k (by simp [hk]) fun e=>h1 (e ▸ hk)
    simp only [List.filter_cons,this];cases f x<;>cases g x<;>simp
   ·have hm':a∈l:=by
     rcases ahR.1 hm with e|e
     ·exact absurd e.symm hx
     ·exact e
    have ih:=Ur h2 hm' fun k hk=>he k (by simp [hk])
    have e:=he x (by simp) hx;simp only [List.filter_cons,e];cases g x<;>simp<;>omega
theorem rS.moved {suf:Pth} {l:List INm} (h:rS suf l) {id:Int} {p q:Pth} (hm:(id,p)∈l) (hps:p≠suf) (hq:q≠[]) (hnu:¬ p <:+ q.tail) (hqt:∃ k∈l,k.2=q.tail) (hqo:∀ m∈l,m.2=q->m.1=id) :
  rS suf (l.map fun m=>(m.1,ren p q m.2))/\∀ m∈l,(aZ (l.map fun m=>(m.1,ren p q m.2)) (ren p q m.2):Int)=aZ l m.2+(if m.2=q.tail then 1 else 0) - (if m.2=p.tail then 1 else 0):=by
 have hsq:suf <:+ q:=by
  obtain ⟨k,hk,e⟩:=hqt;have:=h.un k hk;rw [e] at this;exact this.trans (ajl q)
 have hsp:=h.un _ hm;have hpne:=h.ne hm;have hqk:∀ k∈l,q <:+ k.2->p <:+ k.2:=fun k hk hs=>by
  obtain ⟨m,hm',e⟩:=h.ancS hk hs hsq;have:m=(id,p):=h.byI hm' hm (hqo m hm' e);subst this;rw [show p=q from e];exact hs
 have inj:∀ a∈l,∀ b∈l,ren p q a.2=ren p q b.2->a=b:=fun a ha b hb e=>by
  by_cases h1:p <:+ a.2<;>by_cases h2:p <:+ b.2
  ·obtain ⟨y,e1⟩:=h1;obtain ⟨z,e2⟩:=h2;rw [<- e1,<- e2,gJ,gJ] at e;exact h.byP ha hb (by rw [<- e1,<- e2,List.append_cancel_right e])
  ·obtain ⟨y,e1⟩:=h1;rw [<- e1,gJ,gc h2] at e;exact absurd (hqk b hb ⟨y,e⟩) h2
  ·obtain ⟨z,e2⟩:=h2;rw [<- e2,gJ,gc h1] at e;exact absurd (hqk a ha ⟨z,e.symm⟩) h1
  ·rw [gc h1,gc h2] at e;exact h.byP ha hb e
 have parP:∀ k∈l,p <:+ k.2->∃ j∈l,j.2=k.2.tail:=fun k hk hs=>by
  rcases h.par k hk with e|e
  ·rw [e] at hs;exact absurd (hs.eq_of_length_le hsp.length_le) hps
  ·exact e
 have tl:∀ y:Pth,y≠[]->(y++q).tail=y.tail++q/\(y++p).tail=y.tail++p:=fun y hy=>by
  cases y with
  | nil=>exact absurd rfl hy
  | cons a y=>exact ⟨rfl,rfl⟩
 have lnd:l.Nodup:=yS h.ids;refine ⟨⟨h.sne,?_,by rw [ahS];exact h.ids,?_,?_⟩,?_⟩
 ·rw [ahS];have:∀ l':List INm,(∀ x∈l',x∈l)->l'.Nodup->(l'.map ((·.2) ∘ fun m:INm=>(m.1,ren p q m.2))).Nodup:=by
   intro l'
   induction l' with
   | nil=>intro _ _;simp
   | cons a l' ih =>
     intro hs hn;obtain ⟨n1,n2⟩:=aiJ.1 hn;rw [ahH,aiJ];refine ⟨fun hc=>?_,ih (fun x hx=>hs x (by simp [hx])) n2⟩;obtain ⟨b,hb,e⟩:=ahs.1 hc;exact n1 (inj b (hs b (by simp [hb])) a (hs a (by simp)) e ▸ hb)
  exact this l (fun _ h=>h) lnd
 ·intro m hm';obtain ⟨k,hk,rfl⟩:=ahs.1 hm';simp only;by_cases hs:p <:+ k.2
  ·obtain ⟨y,e⟩:=hs;rw [<- e,gJ];exact hsq.trans (List.suffix_append ..)
  ·rw [gc hs];exact h.un k hk
 ·intro m hm';obtain ⟨k,hk,rfl⟩:=ahs.1 hm';simp only;by_cases hs:p <:+ k.2
  ·obtain ⟨y,e⟩:=hs;rw [<- e,gJ];right;by_cases hy:y=[]
   ·subst hy;obtain ⟨j,hj,ej⟩:=hqt;exact ⟨_,ajy hj,by simp only;rw [ej,gc hnu];rfl⟩
   ·obtain ⟨j,hj,ej⟩:=parP k hk ⟨y,e⟩;rw [<- e,(tl y hy).2] at ej;exact ⟨_,ajy hj,by simp only;rw [ej,gJ,(tl y hy).1]⟩
  ·rw [gc hs];rcases h.par k hk with e|⟨j,hj,ej⟩
   ·exact .inl e
   ·refine .inr ⟨_,ajy hj,?_⟩;simp only;rw [ej,gc (fun hc=>hs (hc.trans (ajl _)))]
 ·intro m hml;have hqne:∀ y:Pth,y++q≠[]:=fun y e=>hq (aks.1 e).2
  have e1:aZ (l.map fun m=>(m.1,ren p q m.2)) (ren p q m.2)=(l.filter fun k=>decide (ren p q k.2≠[]/\(ren p q k.2).tail=ren p q m.2)).length:=by
   unfold aZ;rw [List.filter_map,ahF];rfl
  have hd:=Ur (f:=fun k:INm=>decide (ren p q k.2≠[]/\(ren p q k.2).tail=ren p q m.2)) (g:=fun k:INm=>decide (k.2≠[]/\k.2.tail=m.2)) lnd hm fun k hk hne=>by
   congr 1
   apply propext;by_cases hs:p <:+ k.2
   ·obtain ⟨j,hj,ej⟩:=parP k hk hs;obtain ⟨y,e⟩:=hs;have hy:y≠[]:=fun e2=>by
     subst e2;exact hne (h.byP hk hm e.symm)
    rw [<- e] at ej ⊢;rw [gJ,(tl y hy).1,(tl y hy).2];rw [(tl y hy).2] at ej;constructor
    ·rintro ⟨_,e3⟩;refine ⟨fun e4=>hpne (aks.1 e4).2,?_⟩;have:j=m:=inj j hj m hml (by rw [ej,gJ,e3]);rw [<- this,ej]
    ·rintro ⟨_,e3⟩;exact ⟨hqne _,by rw [<- e3,gJ]⟩
   ·rw [gc hs];by_cases hr:p <:+ m.2
    ·obtain ⟨y,e⟩:=hr;rw [<- e,gJ];constructor
     ·rintro ⟨_,e3⟩;exact absurd (hqk k hk (List.IsSuffix.trans (⟨y,e3.symm⟩:q <:+ k.2.tail) (ajl _))) hs
     ·rintro ⟨_,e3⟩;exact absurd (List.IsSuffix.trans (⟨y,e3.symm⟩:p <:+ k.2.tail) (ajl _)) hs
    ·rw [gc hr]
  rw [<- e1] at hd;have f1:decide (ren p q (id,p).2≠[]/\(ren p q (id,p).2).tail=ren p q m.2)=decide (m.2=q.tail):=by
   have e2:ren p q p=q:=by have:=gJ p q [];simpa using this
   simp only [e2]
   congr 1
   apply propext;by_cases hr:p <:+ m.2
   ·obtain ⟨y,e⟩:=hr;rw [<- e,gJ];constructor
    ·rintro ⟨_,e3⟩;have:=congrArg List.length e3;rw [ai1,ahy] at this;have:=ah8.2 hq;omega
    ·intro e3;exact absurd ⟨y,e3⟩ hnu
   ·rw [gc hr];exact ⟨fun e3=>e3.2.symm,fun e3=>⟨hq,e3.symm⟩⟩
  have g1:decide ((id,p).2≠[]/\(id,p).2.tail=m.2)=decide (m.2=p.tail):=by
   congr 1
   apply propext;exact ⟨fun e3=>e3.2.symm,fun e3=>⟨hpne,e3.symm⟩⟩
  simp only [f1,g1,decide_eq_true_eq] at hd;have hd':aZ (l.map fun m=>(m.1,ren p q m.2)) (ren p q m.2)+(if m.2=p.tail then 1 else 0)=aZ l m.2+(if m.2=q.tail then 1 else 0):=hd;clear hd
  revert hd'
  split<;>split<;>intro hd'<;>omega
def NK (d:List Rdn):Pth:=d.map (cn true)
def OkD (d:List Rdn):Prop:=(prS d).2=0
instance (d:List Rdn):Decidable (OkD d):=inferInstanceAs (Decidable (_=_))
theorem Uu:∀ (d:List Rdn) (i:Nat),i<=32->(jH i d=0↔i+d.length<=32/\∀ r∈d,r≠[]/\dl [] r=0)
 | [],i,h=>by simp [jH,h]
 | r::d,i,h=>by
   unfold jH;by_cases h1:i=32
   ·rw [if_pos h1];constructor
    ·intro h;exact absurd h (by decide)
    ·rintro ⟨h2,_⟩;simp at h2;omega
   rw [if_neg h1];by_cases h2:r=[]
   ·rw [if_pos h2];constructor
    ·intro h;exact absurd h (by decide)
    ·rintro ⟨_,h3⟩;exact absurd h2 (h3 r (by simp)).1
   rw [if_neg h2];by_cases h3:dl [] r=0
   ·rw [if_neg (by simpa using h3),Uu d (i+1) (by omega)];constructor
    ·rintro ⟨h4,h5⟩;refine ⟨by simp;omega,fun x hx=>?_⟩;rcases ahR.1 hx with rfl|hx
     ·exact ⟨h2,h3⟩
     ·exact h5 x hx
    ·rintro ⟨h4,h5⟩;exact ⟨by simp at h4;omega,fun x hx=>h5 x (by simp [hx])⟩
   ·rw [if_pos h3];constructor
    ·intro h;exact absurd h h3
    ·rintro ⟨_,h4⟩;exact absurd (h4 r (by simp)).2 h3
theorem Qu (d:List Rdn):OkD d↔d.length<=32/\(∀ r∈d,r≠[]/\dl [] r=0)/\yA d=false/\(aQ false d).length<=4096:=by
 have hc:=Uu d 0 (by omega);unfold OkD prS;by_cases h1:jH 0 d=0
 ·rw [if_neg (by simpa using h1)];have:=hc.1 h1;by_cases h2:yA d=true
  ·rw [if_pos h2];constructor
   ·intro h;exact absurd h (by decide)
   ·rintro ⟨_,_,h3,_⟩;rw [h2] at h3;cases h3
  rw [if_neg h2];by_cases h3:4096<(aQ false d).length
  ·rw [if_pos h3];constructor
   ·intro h;exact absurd h (by decide)
   ·rintro ⟨_,_,_,h4⟩;omega
  rw [if_neg h3];exact ⟨fun _=>⟨by omega,this.2,by simpa using h2,by omega⟩,fun _=>rfl⟩
 ·rw [if_pos h1];constructor
  ·intro h;exact absurd h h1
  ·rintro ⟨h2,h3,_⟩;exact absurd (hc.2 ⟨by omega,h3⟩) h1
theorem OkD.nil:OkD []:=(Qu []).2 ⟨by simp,by simp,by rfl,by decide⟩
theorem acb (k:Bool) (c d:List Rdn):(aQ k d).length<=(aQ k (c++d)).length:=by
 have h1:=oi (d.map (cn k)) 44;have h2:=oi ((c++d).map (cn k)) 44;rw [ahN,ahN,List.sum_append,ahy] at h2;unfold aQ;rw [ahN];by_cases hd:d.map (cn k)=[]
 ·rw [hd];simp [Lib.join]
 ·rw [if_neg hd] at h1;rw [if_neg (by simp only [aks,not_and];exact fun _=>hd)] at h2;omega
theorem OkD.app {c d:List Rdn} (h:OkD (c++d)):OkD d:=by
 rw [Qu] at h ⊢;obtain ⟨h1,h2,h3,h4⟩:=h;refine ⟨by simp at h1;omega,fun r hr=>h2 r (by simp [hr]),?_,ahV (acb _ _ _) h4⟩;unfold yA at h3 ⊢;rw [ajM,ajw] at h3;exact h3.2
theorem OkD.drop {d:List Rdn} (h:OkD d) (n:Nat):OkD (d.drop n):=OkD.app (c:=d.take n) (by rw [ai4];exact h)
theorem OkD.tail {d:List Rdn} (h:OkD d):OkD d.tail:=by rw [<- ajU];exact h.drop 1
theorem OkD.len {d:List Rdn} (h:OkD d):d.length<=32:=((Qu d).1 h).1
theorem gg {d:List Rdn} (h:OkD d):Qw d=(aQ true d,0):=by
 unfold Qw;rw [if_neg (by simpa [OkD] using h)]
theorem Qv {d:List Rdn} (h:¬ OkD d):(Qw d).2≠0:=by
 unfold Qw;rw [if_pos (show (prS d).2≠0 from h)];exact h
theorem OkD.plain {d:List Rdn} (h:OkD d):fP (aQ true d)=(gf d,0):=by
 obtain ⟨h1,h2,h3,h4⟩:=(Qu d).1 h;have hc:jH 0 d=0:=(Uu d 0 (by omega)).2 ⟨by omega,h2⟩;have:=WY d;rw [<- yR d];exact Xn (Ut d 0 hc) (by rw [yR];omega)
theorem Yd (d:List Rdn):NK (gf d)=NK d:=by
 unfold NK gf;rw [ahS];rw [show (cn true ∘ gG)=cn true from funext Yx]
theorem kI {d e:List Rdn} (hd:OkD d) (he:OkD e):aQ true d=aQ true e↔NK d=NK e:=by
 constructor
 ·intro h;have h1:=hd.plain;rw [h,he.plain] at h1;have:gf e=gf d:=by injection h1
  rw [<- Yd d,<- this,Yd]
 ·intro h;unfold NK at h;unfold aQ;rw [h]
theorem be (d:List Rdn):(NK d).length=d.length:=by simp [NK]
theorem Zr {d:List Rdn}:NK d=[]↔d=[]:=by simp [NK]
theorem agm (c d:List Rdn):NK (c++d)=NK c++NK d:=by simp [NK]
theorem aao (d:List Rdn) (n:Nat):NK (d.drop n)=(NK d).drop n:=by simp [NK]
theorem QN (d:List Rdn):NK d.tail=(NK d).tail:=by simp [NK]
def cu (d b:List Rdn):Bool:=decide (OkD d) && decide (OkD b) && decide (b.length<=d.length) && decide (aQ true (d.drop (d.length - b.length))=aQ true b)
theorem cK {d b:List Rdn}:cu d b=true↔OkD d/\OkD b/\NK b <:+ NK d:=by
 unfold cu;simp only [aht,decide_eq_true_eq];constructor
 ·rintro ⟨⟨⟨h1,h2⟩,h3⟩,h4⟩;refine ⟨h1,h2,?_⟩;rw [kI (h1.drop _) h2,aao] at h4;rw [<- h4];exact List.drop_suffix _ _
 ·rintro ⟨h1,h2,h3⟩;have hl:=h3.length_le;rw [be,be] at hl;refine ⟨⟨⟨h1,h2⟩,hl⟩,?_⟩;rw [kI (h1.drop _) h2,aao];obtain ⟨y,e⟩:=h3;have:y.length=d.length - b.length:=by
   have:=congrArg List.length e;rw [ahy,be,be] at this;omega
  rw [<- e,<- this,List.drop_left]
def GT (a b:List Rdn):Bool:=decide (a.length=b.length) && cu a b
theorem W3 {a b:List Rdn}:GT a b=true↔OkD a/\OkD b/\NK a=NK b:=by
 unfold GT;rw [aht,decide_eq_true_eq,cK];constructor
 ·rintro ⟨h1,h2,h3,h4⟩;exact ⟨h2,h3,(h4.eq_of_length (by rw [be,be,h1])).symm⟩
 ·rintro ⟨h1,h2,h3⟩;exact ⟨by rw [<- be,h3,be],h1,h2,by rw [h3];exact ajk _⟩
structure Ent (α:Type) where
 id:Int
 nm:List Rdn
 av:α
variable {α:Type}
def dq (l:List (Ent α)):List INm:=l.map fun x=>(x.id,NK x.nm)
structure TOk (suf:List Rdn) (last:Int) (l:List (Ent α)):Prop where
 sok:OkD suf
 ok:∀ x∈l,OkD x.nm
 inv:rS (NK suf) (dq l)
 ids:∀ x∈l,1<=x.id/\x.id<=last
theorem gy {l:List (Ent α)} {x:Ent α} (h:x∈l):(x.id,NK x.nm)∈dq l:=ahs.2 ⟨x,h,rfl⟩
theorem TOk.byN {suf:List Rdn} {last:Int} {l:List (Ent α)} (h:TOk suf last l) {a b:Ent α} (ha:a∈l) (hb:b∈l) (e:NK a.nm=NK b.nm):a=b:=by
 have hn:=h.inv.nd;unfold dq at hn;rw [ahS] at hn;exact ff hn ha hb e
theorem TOk.byI {suf:List Rdn} {last:Int} {l:List (Ent α)} (h:TOk suf last l) {a b:Ent α} (ha:a∈l) (hb:b∈l) (e:a.id=b.id):a=b:=by
 have hn:=h.inv.ids;unfold dq at hn;rw [ahS] at hn;exact ff hn ha hb e
def atE (l:List (Ent α)) (d:List Rdn):Option (Ent α):=if OkD d then l.find? (fun x=>decide (NK x.nm=NK d)) else none
def aY (l:List (Ent α)) (d:List Rdn):Int:=match atE l d with|some x=>x.id|none=>0
def ux (l:List (Ent α)) (id:Int):Option (Ent α):=l.find? (fun x=>decide (x.id=id))
def eX (l:List (Ent α)) (id:Int):Nat:=match ux l id with|some x=>aZ (dq l) (NK x.nm)|none=>0
theorem cH {l:List (Ent α)} {d:List Rdn} {x:Ent α} (h:atE l d=some x):OkD d/\x∈l/\NK x.nm=NK d:=by
 unfold atE at h;split at h
 ·rename_i h1
  exact ⟨h1,aiR h,by simpa using aiQ h⟩
 ·cases h
theorem TOk.at {suf:List Rdn} {last:Int} {l:List (Ent α)} (h:TOk suf last l) {x:Ent α} (hx:x∈l) {d:List Rdn} (hd:OkD d) (e:NK d=NK x.nm):atE l d=some x:=by
 unfold atE;rw [if_pos hd];cases hf:l.find? (fun x=>decide (NK x.nm=NK d)) with
 | none=>exact absurd e.symm (by simpa using ai2.1 hf x hx)
 | some y=>rw [h.byN (aiR hf) hx (by rw [<- e];simpa using aiQ hf)]
theorem yM {l:List (Ent α)} {d:List Rdn}:atE l d=none↔(OkD d->∀ x∈l,NK x.nm≠NK d):=by
 unfold atE;split
 ·rename_i h
  rw [ai2];simp only [decide_eq_true_eq];exact ⟨fun h1 _=>h1,fun h1=>h1 h⟩
 ·rename_i h
  exact ⟨fun _ h1=>absurd h1 h,fun _=>rfl⟩
theorem abv {l:List (Ent α)} {id:Int} {x:Ent α} (h:ux l id=some x):x∈l/\x.id=id:=⟨aiR h,by simpa using aiQ h⟩
theorem TOk.ent {suf:List Rdn} {last:Int} {l:List (Ent α)} (h:TOk suf last l) {x:Ent α} (hx:x∈l):ux l x.id=some x:=by
 unfold ux;cases hf:l.find? (fun y=>decide (y.id=x.id)) with
 | none=>exact absurd (ai2.1 hf x hx) (by simp)
 | some y=>rw [h.byI (aiR hf) hx (by simpa using aiQ hf)]
theorem TOk.find0 {suf:List Rdn} {last:Int} {l:List (Ent α)} (h:TOk suf last l) {d:List Rdn}:aY l d=0↔atE l d=none:=by
 unfold aY;cases hf:atE l d with
 | none=>simp
 | some x =>
   have:=h.ids x (cH hf).2.1;simp only [reduceCtorEq,iff_false];omega
theorem TOk.kids {suf:List Rdn} {last:Int} {l:List (Ent α)} (h:TOk suf last l) {x:Ent α} (hx:x∈l):aZ (dq l) (NK x.nm)=(l.filter fun k=>decide (k.nm.length=x.nm.length+1) && cu k.nm x.nm).length:=by
 unfold aZ dq;rw [List.filter_map,ahF]
 congr 1
 refine List.filter_congr fun k hk=>?_
 rw [Bool.eq_iff_iff];simp only [ai0,aht,decide_eq_true_eq,cK];constructor
 ·rintro ⟨h1,h2⟩;have hl:=congrArg List.length h2;have h3:=ah8.2 h1;rw [ai1,be,be] at hl;rw [be] at h3;exact ⟨by omega,h.ok k hk,h.ok x hx,by rw [<- h2];exact ajl _⟩
 ·rintro ⟨h1,_,_,h2⟩;have hne:NK k.nm≠[]:=fun e=>by
   have:=congrArg List.length e;rw [be,ahZ] at this;omega
  refine ⟨hne,?_⟩;obtain ⟨y,e⟩:=h2;have hy:=congrArg List.length e;rw [ahy,be,be] at hy;obtain ⟨a,rfl⟩:∃ a,y=[a]:=List.length_eq_one_iff.1 (by omega);rw [<- e];rfl
open Go Go.Sort
def cpS (a b:List UInt8):Int:=if a<b then -1 else if b<a then 1 else 0
def cpP:Pth->Pth->Int
 | [],[]=>0
 | [],_::_=>-1
 | _::_,[]=>1
 | x::a,y::b=>if cpS x y≠0 then cpS x y else cpP a b
theorem WK (a:List UInt8):¬ a<a:=akc a
theorem aag {a b:List UInt8} (h:a<b):¬ b<a:=List.lt_asymm h
theorem adx {a b c:List UInt8} (h1:a<b) (h2:b<c):a<c:=List.lt_trans h1 h2
theorem adw {a b:List UInt8} (h1:¬ a<b) (h2:¬ b<a):a=b:=List.le_antisymm (ajO.1 h2) (ajO.1 h1)
theorem qq (a b:List UInt8):(a<b/\cpS a b=-1)\/(a=b/\cpS a b=0)\/(b<a/\cpS a b=1):=by
 unfold cpS;by_cases h1:a<b
 ·exact .inl ⟨h1,if_pos h1⟩
 ·rw [if_neg h1];by_cases h2:b<a
  ·exact .inr (.inr ⟨h2,if_pos h2⟩)
  ·exact .inr (.inl ⟨adw h1 h2,if_neg h2⟩)
theorem adr (a:List UInt8):cpS a a=0:=by unfold cpS;rw [if_neg (WK a),if_neg (WK a)]
theorem ads {a b:List UInt8} (h:a<b):cpS a b=-1:=if_pos h
theorem af6 {a b:List UInt8} (h:b<a):cpS a b=1:=by unfold cpS;rw [if_neg (aag h),if_pos h]
theorem X3:∀ (a b:Pth),cpP b a=- cpP a b
 | [],[]=>rfl
 | [],_::_=>rfl
 | _::_,[]=>rfl
 | x::a,y::b=>by
   unfold cpP;rcases qq x y with ⟨h,e⟩|⟨h,e⟩|⟨h,e⟩
   ·rw [e,af6 h];rfl
   ·subst h;rw [e];simp only [ne_eq,not_true_eq_false,if_false];exact X3 a b
   ·rw [e,ads h];rfl
theorem X0:∀ {a b:Pth},cpP a b=0->a=b
 | [],[],_=>rfl
 | [],_::_,h=>by simp [cpP] at h
 | _::_,[],h=>by simp [cpP] at h
 | x::a,y::b,h=>by
   unfold cpP at h;rcases qq x y with ⟨h1,e⟩|⟨h1,e⟩|⟨h1,e⟩
   ·rw [e] at h;simp at h
   ·subst h1;rw [e] at h;simp only [ne_eq,not_true_eq_false,if_false] at h;rw [X0 h]
   ·rw [e] at h;simp at h
theorem X2:∀ a:Pth,cpP a a=0
 | []=>rfl
 | x::a=>by
   unfold cpP;rw [adr];simpa using X2 a
theorem VM:∀ {a b c:Pth},cpP a b<0->cpP b c<0->cpP a c<0
 | [],[],_,h,_=>by exact absurd h (by decide)
 | [],_::_,[],_,h=>by exact absurd h (by show ¬ (1:Int)<0;decide)
 | [],_::_,_::_,_,_=>by show (-1:Int)<0;decide
 | _::_,[],_,h,_=>by exact absurd h (by show ¬ (1:Int)<0;decide)
 | _::_,_::_,[],_,h=>by exact absurd h (by show ¬ (1:Int)<0;decide)
 | x::a,y::b,z::c,h1,h2=>by
   unfold cpP at h1 h2 ⊢;rcases qq x y with ⟨k1,e1⟩|⟨k1,e1⟩|⟨k1,e1⟩
   ·rcases qq y z with ⟨k2,e2⟩|⟨k2,e2⟩|⟨k2,e2⟩
    ·rw [ads (adx k1 k2)];simp
    ·subst k2;rw [e1];simp
    ·rw [e2] at h2;simp at h2
   ·subst k1;rcases qq x z with ⟨k2,e2⟩|⟨k2,e2⟩|⟨k2,e2⟩
    ·rw [e2];simp
    ·subst k2;rw [e1] at h1 h2;rw [e1];simp only [ne_eq,not_true_eq_false,if_false] at h1 h2 ⊢;exact VM h1 h2
    ·rw [e2] at h2;simp at h2
   ·rw [e1] at h1;simp at h1
def pLt (a b:Pth):Bool:=decide (cpP a b<0)
theorem ZW (a:Pth):pLt a a=false:=by unfold pLt;rw [X2];rfl
theorem QU {a b c:Pth} (h1:pLt a b=true) (h2:pLt b c=true):pLt a c=true:=by
 unfold pLt at *;rw [decide_eq_true_eq] at *;exact VM h1 h2
theorem Wh {a b:Pth} (h1:pLt a b=false) (h2:pLt b a=false):a=b:=by
 unfold pLt at *;rw [decide_eq_false_iff_not] at *;rw [X3 a b] at h2;exact X0 (by omega)
theorem Xp {a b:Pth} (h:pLt a b=true):pLt b a=false:=by
 cases h2:pLt b a with
 | false=>rfl
 | true=>have:=QU h h2;rw [ZW] at this;cases this
theorem Ob {a b c:Pth} (h1:pLt a b=false) (h2:pLt b c=false):pLt a c=false:=by
 cases h3:pLt a c with
 | false=>rfl
 | true =>
   cases h4:pLt b a with
   | true=>have:=QU h4 h3;rw [h2] at this;cases this
   | false=>have:=Wh h1 h4;subst this;rw [h2] at h3;cases h3
theorem aeu {β:Type} (f:β->Pth):SWO (fun x y=>pLt (f x) (f y)) :=
 ⟨fun x=>ZW _,fun x y z=>QU,fun x y z=>Ob⟩
variable {α:Type}
def pth (x:Ent α):Pth:=(NK x.nm).reverse
def leE (x y:Ent α):Bool := !pLt (pth y) (pth x)
def eK (a:Ent α) (s:Int) (x:Ent α):Bool:=cu x.nm a.nm && (decide (s=2) || decide ((x.nm.length:Int) - a.nm.length=s))
def scL (l:List (Ent α)) (a:Ent α) (s:Int):List (Ent α):=(l.filter (eK a s)).mergeSort leE
def scT (l:List (Ent α)) (id s:Int):List Int:=match ux l id with|none=>[]|some a=>if s<0\/2<s then [] else (scL l a s).map (·.id)
theorem Wb {x y:Ent α} (h:pth x=pth y):NK x.nm=NK y.nm:=by
 have:=congrArg List.reverse h;simpa [pth] using this
theorem VC (a b c:Ent α) (h1:leE a b=true) (h2:leE b c=true):leE a c=true:=by
 unfold leE at *;simp only [ah7] at *;exact Ob h2 h1
theorem VD (a b:Ent α):(leE a b || leE b a)=true:=by
 unfold leE;cases h:pLt (pth b) (pth a) with
 | false=>rfl
 | true=>rw [Xp h];rfl
theorem TOk.one {suf:List Rdn} {last:Int} {l:List (Ent α)} (h:TOk suf last l) {a:Ent α} {s:Int} {m:List (Ent α)} (hp:m.Perm (l.filter (eK a s))) (hs:m.Pairwise fun x y=>leE x y=true):m=scL l a s:=by
 have h2:=akd (le:=leE) (fun a b c=>VC a b c) VD (l.filter (eK a s));have hq:(scL l a s).Perm (l.filter (eK a s)):=aiZ _ _;refine akp (le:=fun x y=>leE x y=true) (fun x y hx hy e1 e2=>?_) hs h2 (hp.trans hq.symm);have mx:x∈l:=(ah5.1 (hp.mem_iff.1 hx)).1;have my:y∈l:=(ah5.1 (hq.mem_iff.1 hy)).1;unfold leE at e1 e2;simp only [ah7] at e1 e2;exact h.byN mx my (Wb (Wh e2 e1))
def Ss (x:Ent α) (l:List (Ent α)):Nat->Nat
 | 0=>0
 | k+1=>match l[k]? with|some y=>if pLt (pth x) (pth y) then Ss x l k else k+1|none=>k+1
def uw (x:Ent α) (l:List (Ent α)):List (Ent α):=l.take (Ss x l l.length)++[x]++l.drop (Ss x l l.length)
theorem Q0 (x:Ent α) (l:List (Ent α)):∀ k,k<=l.length->Ss x l k<=k/\(∀ j y,Ss x l k<=j->j<k->l[j]?=some y->pLt (pth x) (pth y)=true)/\(∀ y,Ss x l k≠0->l[Ss x l k - 1]?=some y->pLt (pth x) (pth y)=false)
 | 0,_=>⟨ahn _,fun j _ _ h=>absurd h (aja _),fun y h=>absurd rfl h⟩
 | k+1,h=>by
   unfold Ss;have hk:l[k]?=some l[k]:=ahB (by omega);rw [hk];simp only;by_cases hc:pLt (pth x) (pth l[k])=true
   ·rw [if_pos hc];obtain ⟨h1,h2,h3⟩:=Q0 x l k (by omega);refine ⟨by omega,fun j y hj1 hj2 he=>?_,h3⟩;by_cases e:j=k
    ·subst e;rw [hk] at he;injection he with he
     rw [<- he];exact hc
    ·exact h2 j y hj1 (by omega) he
   ·rw [if_neg hc];refine ⟨ahn _,fun j y h1 h2=>by omega,fun y _ he=>?_⟩;rw [Nat.add_sub_cancel,hk] at he;injection he with he
    rw [<- he];simpa using hc
theorem VF (x:Ent α) (l:List (Ent α)):(uw x l).Perm (l++[x]):=by
 unfold uw;rw [ahz];refine (List.perm_append_comm_assoc _ _ _).trans ?_;rw [ai4];exact List.perm_append_comm
theorem XK {x:Ent α} {l:List (Ent α)} (hs:l.Pairwise fun x y=>leE x y=true):(uw x l).Pairwise fun x y=>leE x y=true:=by
 obtain ⟨h1,h2,h3⟩:=Q0 x l l.length (ahn _);unfold uw;obtain ⟨k,hk⟩:=aaR (Ss x l l.length);rw [hk] at h1 h2 h3 ⊢;have hup:∀ y∈l.drop k,pLt (pth x) (pth y)=true:=fun y hy=>by
  obtain ⟨j,hj,e⟩:=aiv.1 hy;rw [List.getElem_drop] at e;rw [aik] at hj;exact h2 (k+j) y (by omega) (by omega) (by rw [ahB (by omega),e])
 have hdn:∀ y∈l.take k,pLt (pth x) (pth y)=false:=fun y hy=>by
  obtain ⟨j,hj,e⟩:=aiv.1 hy;rw [akb] at e;rw [ail] at hj;have hk0:k≠0:=by omega
  have hl:l[k - 1]?=some (l[k - 1]'(by omega)):=ahB (by omega);have h4:=h3 _ hk0 hl;by_cases ej:j=k - 1
  ·subst ej;rw [<- e];exact h4
  ·have h5:=aiL.1 hs j (k - 1) (by omega) (by omega) (by omega);rw [e] at h5;unfold leE at h5;rw [ah7] at h5;exact Ob h4 h5
 rw [ahz,ako];refine ⟨hs.sublist (List.take_sublist _ _),?_,?_⟩
 ·rw [ajG,List.pairwise_cons];refine ⟨fun y hy=>?_,hs.sublist (List.drop_sublist _ _)⟩;unfold leE;rw [Xp (hup y hy)];rfl
 ·intro a ha b hb;rw [ajG] at hb;rcases ahR.1 hb with rfl|hb
  ·unfold leE;rw [hdn a ha];rfl
  ·obtain ⟨i,hi,e1⟩:=aiv.1 ha;obtain ⟨j,hj,e2⟩:=aiv.1 hb;rw [akb] at e1;rw [List.getElem_drop] at e2;rw [ail] at hi;rw [aik] at hj;rw [<- e1,<- e2];exact aiL.1 hs i (k+j) (by omega) (by omega) (by omega)
def QA (m l:List (Ent α)):List (Ent α):=l.foldl (fun m x=>uw x m) m
theorem K8:∀ (l m:List (Ent α)),(QA m l).Perm (m++l)
 | [],m=>by simp [QA]
 | x::l,m=>by
   unfold QA;rw [aiO];refine (K8 l (uw x m)).trans ?_;refine ((VF x m).append_right l).trans ?_;rw [ahz];rfl
theorem Sk:∀ (l m:List (Ent α)),(m.Pairwise fun x y=>leE x y=true)->(QA m l).Pairwise fun x y=>leE x y=true
 | [],m,h=>h
 | x::l,m,h=>by
   unfold QA;rw [aiO];exact Sk l _ (XK h)
theorem TOk.ins {suf:List Rdn} {last:Int} {l:List (Ent α)} (h:TOk suf last l) (a:Ent α) (s:Int):QA [] (l.filter (eK a s))=scL l a s :=
 h.one (by simpa using K8 (l.filter (eK a s)) []) (Sk _ _ List.Pairwise.nil)
theorem TOk.srt {suf:List Rdn} {last:Int} {l:List (Ent α)} (h:TOk suf last l) (a:Ent α) (s:Int) {m:List (Ent α)} (hp:m.Perm (l.filter (eK a s))):m.mergeSort leE=scL l a s :=
 h.one ((aiZ _ _).trans hp) (akd (le:=leE) (fun a b c=>VC a b c) VD m)
theorem ac9 {suf:List Rdn} {last:Int} {l:List (Ent α)} (h:TOk suf last l) {a x:Ent α} (ha:a∈l) (hx:x∈l) (s:Int):eK a s x=(decide (0<=((pth x).length:Int) - (pth a).length) && decide ((pth x).take (pth a).length=pth a) && (decide (s=2) || decide (((pth x).length:Int) - (pth a).length=s))):=by
 have hl:∀ x:Ent α,(pth x).length=x.nm.length:=fun x=>by simp [pth,be]
 unfold eK;rw [hl,hl]
 congr 1
 rw [Bool.eq_iff_iff,aht,decide_eq_true_eq,decide_eq_true_eq,cK];constructor
 ·rintro ⟨_,_,y,e⟩;have hy:=congrArg List.length e;rw [ahy,be,be] at hy;refine ⟨by omega,?_⟩;have:pth x=pth a++y.reverse:=by unfold pth;rw [<- e,List.reverse_append]
  rw [this,<- hl a,List.take_left'];rfl
 ·rintro ⟨h1,h2⟩;refine ⟨h.ok x hx,h.ok a ha,?_⟩;have h3:pth a <+: pth x:=by rw [<- h2];exact List.take_prefix _ _
  unfold pth at h3;exact List.reverse_prefix.1 h3
variable {α:Type}
def gx (n:List Rdn) (k:Nat) (tn:List Rdn):List Rdn:=n.take (n.length - k)++tn
def YJ (l:List (Ent α)) (id:Int) (tn:List Rdn):Bool:=match atE l tn with|some y=>decide (y.id≠id)|none=>false
def Zm (l:List (Ent α)) (dn tn:List Rdn):Bool:=l.any fun y=>cu y.nm dn && !decide (OkD (gx y.nm dn.length tn))
def Wk (suf:List Rdn) (l:List (Ent α)) (id:Int) (dn tn:List Rdn):Int :=
 if GT dn suf=true then 53 else if ¬ OkD tn\/tn=[] then 34 else if cu tn.tail dn=true then 53 else if atE l tn.tail=none then 32 else if YJ l id tn=true then 68 else if Zm l dn tn=true then 34 else 0
def d8 (suf:List Rdn) (l:List (Ent α)) (k:Int) (dn tn:List Rdn):Int :=
 if k<1\/4<k then 1
 else if k=1 then (if ¬ OkD dn then 34 else if atE l dn≠none then 68 else if GT dn suf=false/\(dn=[]\/atE l dn.tail=none) then 32 else if 4096<=l.length then 80 else 0)
 else match atE l dn with
  | none=>32
  | some x=>if k=2 then (if aZ (dq l) (NK x.nm)≠0 then 66 else 0) else if k=3 then 0 else Wk suf l x.id dn tn
def rR (l:List (Ent α)) (last:Int) (dn:List Rdn) (v:α):List (Ent α):=l++[⟨last+1,dn,v⟩]
def QH (l:List (Ent α)) (id:Int):List (Ent α):=l.filter fun x=>decide (x.id≠id)
def rK (l:List (Ent α)) (id:Int) (v:α):List (Ent α):=l.map fun x=>if x.id=id then { x with av:=v } else x
def mV (l:List (Ent α)) (dn tn:List Rdn):List (Ent α):=l.map fun x=>if cu x.nm dn=true then { x with nm:=gx x.nm dn.length tn } else x
def doT (suf:List Rdn) (l:List (Ent α)) (last:Int) (k:Int) (dn tn:List Rdn) (v:α):List (Ent α)×Int :=
 if d8 suf l k dn tn≠0 then (l,last)
 else if k=1 then (rR l last dn v,last+1)
 else if k=2 then (QH l (aY l dn),last)
 else if k=3 then (rK l (aY l dn) v,last)
 else (rK (mV l dn tn) (aY l dn) v,last)
theorem Xv (l:List (Ent α)) (last:Int) (dn:List Rdn) (v:α):dq (rR l last dn v)=dq l++[(last+1,NK dn)]:=by simp [dq,rR]
theorem Xu (l:List (Ent α)) (id:Int):dq (QH l id)=(dq l).filter fun m=>decide (m.1≠id):=by
 unfold dq QH;rw [List.filter_map];rfl
theorem TO (l:List (Ent α)) (id:Int) (v:α):dq (rK l id v)=dq l:=by
 unfold dq rK;rw [ahS];refine aiw fun x _=>?_
 simp only [ai0];split<;>rfl
theorem Z0 {n dn tn:List Rdn} (h:cu n dn=true):NK (gx n dn.length tn)=ren (NK dn) (NK tn) (NK n):=by
 obtain ⟨_,_,hs⟩:=cK.1 h;unfold ren;rw [if_pos hs,be,be];unfold gx;rw [agm]
 congr 1
 simp [NK,ajV]
theorem TOk.ndOf_ren {suf:List Rdn} {last:Int} {l:List (Ent α)} (h:TOk suf last l) {dn:List Rdn} (hd:OkD dn) (tn:List Rdn):dq (mV l dn tn)=(dq l).map fun m=>(m.1,ren (NK dn) (NK tn) m.2):=by
 unfold dq mV;rw [ahS,ahS];refine aiw fun x hx=>?_
 simp only [ai0];by_cases hu:cu x.nm dn=true
 ·rw [if_pos hu,Z0 hu]
 ·rw [if_neg hu];rw [gc fun hs=>hu (cK.2 ⟨h.ok x hx,hd,hs⟩)]
theorem TOk.nil {suf:List Rdn} {last:Int} (h:OkD suf) (hs:suf≠[]):TOk (α:=α) suf last [] :=
 ⟨h,fun _ h=>absurd h air,rS.nil fun e=>hs (Zr.1 e),fun _ h=>absurd h air⟩
theorem TOk.cha {suf:List Rdn} {last:Int} {l:List (Ent α)} (h:TOk suf last l) (id:Int) (v:α):TOk suf last (rK l id v):=by
 refine ⟨h.sok,fun x hx=>?_,by rw [TO];exact h.inv,fun x hx=>?_⟩
 all_goals
  obtain ⟨y,hy,rfl⟩:=ahs.1 hx;split
  ·first|exact h.ok y hy|exact h.ids y hy
  ·first|exact h.ok y hy|exact h.ids y hy
structure ahf (suf:List Rdn) (l:List (Ent α)) (dn:List Rdn):Prop where
 ok:OkD dn
 no:∀ x∈l,NK x.nm≠NK dn
 par:NK dn=NK suf\/∃ x∈l,NK x.nm=(NK dn).tail
theorem TOk.canA {suf:List Rdn} {last:Int} {l:List (Ent α)} (h:TOk suf last l) {dn tn:List Rdn} (ha:d8 suf l 1 dn tn=0):ahf suf l dn/\l.length<4096:=by
 unfold d8 at ha;rw [if_neg (by decide),if_pos rfl] at ha;by_cases h1:OkD dn;rotate_left
 ·rw [if_pos h1] at ha;exact absurd ha (by decide)
 rw [if_neg (by simpa using h1)] at ha;by_cases h2:atE l dn=none;rotate_left
 ·rw [if_pos h2] at ha;exact absurd ha (by decide)
 rw [if_neg (by simpa using h2)] at ha;by_cases h3:GT dn suf=false/\(dn=[]\/atE l dn.tail=none)
 ·rw [if_pos h3] at ha;exact absurd ha (by decide)
 rw [if_neg h3] at ha;by_cases h4:4096<=l.length
 ·rw [if_pos h4] at ha;exact absurd ha (by decide)
 refine ⟨⟨h1,yM.1 h2 h1,?_⟩,by omega⟩;cases hs:GT dn suf with
 | true=>exact .inl (W3.1 hs).2.2
 | false =>
   right;have h5:¬ (dn=[]\/atE l dn.tail=none):=fun e=>h3 ⟨hs,e⟩
   cases ht:atE l dn.tail with
   | none=>exact absurd (.inr ht) h5
   | some x =>
     obtain ⟨_,hx,e⟩:=cH ht;exact ⟨x,hx,by rw [e,QN]⟩
theorem TOk.add {suf:List Rdn} {last:Int} {l:List (Ent α)} (h:TOk suf last l) (hl:0<=last) {dn:List Rdn} (hc:ahf suf l dn) (v:α) :
  TOk suf (last+1) (rR l last dn v)/\aZ (dq (rR l last dn v)) (NK dn)=0/\∀ q,aZ (dq (rR l last dn v)) q=aZ (dq l) q+if (NK dn).tail=q then 1 else 0:=by
 obtain ⟨h1,h2,h3⟩:=h.inv.added (id:=last+1) (p:=NK dn) (fun m hm=>by
  obtain ⟨x,hx,rfl⟩:=ahs.1 hm;have:=h.ids x hx;simp only;omega) (fun m hm=>by
  obtain ⟨x,hx,rfl⟩:=ahs.1 hm;exact hc.no x hx) (by
  rcases hc.par with e|⟨x,hx,e⟩
  ·exact .inl e
  ·exact .inr ⟨_,gy hx,e⟩)
 rw [Xv];refine ⟨⟨h.sok,fun x hx=>?_,by rw [Xv];exact h1,fun x hx=>?_⟩,h2,h3⟩
 ·rcases ahr.1 hx with hx|hx
  ·exact h.ok x hx
  ·rw [ahI.1 hx];exact hc.ok
 ·rcases ahr.1 hx with hx|hx
  ·have:=h.ids x hx;omega
  ·rw [ahI.1 hx];simp only;omega
theorem TOk.del {suf:List Rdn} {last:Int} {l:List (Ent α)} (h:TOk suf last l) {x:Ent α} (hx:x∈l) (h0:aZ (dq l) (NK x.nm)=0) :
  TOk suf last (QH l x.id)/\∀ q,aZ (dq (QH l x.id)) q+(if (NK x.nm).tail=q then 1 else 0)=aZ (dq l) q:=by
 obtain ⟨h1,h2⟩:=h.inv.deleted (gy hx) h0;rw [Xu];refine ⟨⟨h.sok,fun y hy=>h.ok y (ah5.1 hy).1,by rw [Xu];exact h1,fun y hy=>h.ids y (ah5.1 hy).1⟩,h2⟩
structure agr (suf:List Rdn) (l:List (Ent α)) (x:Ent α) (dn tn:List Rdn):Prop where
 mem:x∈l
 ok:OkD dn
 nk:NK x.nm=NK dn
 tok:OkD tn
 tne:tn≠[]
 nos:NK dn≠NK suf
 nun:¬ NK dn <:+ (NK tn).tail
 par:∃ y∈l,NK y.nm=(NK tn).tail
 oth:∀ y∈l,NK y.nm=NK tn->y=x
 all:∀ y∈l,cu y.nm dn=true->OkD (gx y.nm dn.length tn)
theorem TOk.canM {suf:List Rdn} {last:Int} {l:List (Ent α)} (h:TOk suf last l) {x:Ent α} {dn tn:List Rdn} (hx:atE l dn=some x) (ha:Wk suf l x.id dn tn=0):agr suf l x dn tn:=by
 obtain ⟨hd,hm,e⟩:=cH hx;unfold Wk at ha;by_cases h1:GT dn suf=true
 ·rw [if_pos h1] at ha;exact absurd ha (by decide)
 rw [if_neg h1] at ha;by_cases h2:¬ OkD tn\/tn=[]
 ·rw [if_pos h2] at ha;exact absurd ha (by decide)
 rw [if_neg h2] at ha;have ht:OkD tn:=by
  by_cases c:OkD tn
  ·exact c
  ·exact absurd (.inl c) h2
 by_cases h3:cu tn.tail dn=true
 ·rw [if_pos h3] at ha;exact absurd ha (by decide)
 rw [if_neg h3] at ha;by_cases h4:atE l tn.tail=none
 ·rw [if_pos h4] at ha;exact absurd ha (by decide)
 rw [if_neg h4] at ha;by_cases h5:YJ l x.id tn=true
 ·rw [if_pos h5] at ha;exact absurd ha (by decide)
 rw [if_neg h5] at ha;by_cases h6:Zm l dn tn=true
 ·rw [if_pos h6] at ha;exact absurd ha (by decide)
 refine ⟨hm,hd,e,ht,fun c=>h2 (.inr c),fun c=>h1 (W3.2 ⟨hd,h.sok,c⟩),fun c=>h3 (cK.2 ⟨ht.tail,hd,by rw [QN];exact c⟩),?_,fun y hy c=>?_,fun y hy hu=>?_⟩
 ·cases h7:atE l tn.tail with
  | none=>exact absurd h7 h4
  | some y =>
    obtain ⟨_,hy,e2⟩:=cH h7;exact ⟨y,hy,by rw [e2,QN]⟩
 ·have:=h.at hy ht c.symm;unfold YJ at h5;rw [this] at h5;simp only [decide_eq_true_eq,ne_eq,ajP] at h5;exact h.byI hy hm h5
 ·have h7:=ajj.1 (by simpa [Zm] using h6:(l.any fun y=>cu y.nm dn && !decide (OkD (gx y.nm dn.length tn)))=false) y hy;rw [hu] at h7;simpa using h7
theorem TOk.mov {suf:List Rdn} {last:Int} {l:List (Ent α)} (h:TOk suf last l) {x:Ent α} {dn tn:List Rdn} (hc:agr suf l x dn tn) :
  TOk suf last (mV l dn tn)/\∀ y∈l,(aZ (dq (mV l dn tn)) (ren (NK dn) (NK tn) (NK y.nm)):Int)=aZ (dq l) (NK y.nm)+(if NK y.nm=(NK tn).tail then 1 else 0) - (if NK y.nm=(NK dn).tail then 1 else 0):=by
 have hm:(x.id,NK dn)∈dq l:=by rw [<- hc.nk];exact gy hc.mem
 obtain ⟨h1,h2⟩:=h.inv.moved hm hc.nos (fun e=>hc.tne (Zr.1 e)) hc.nun (by
  obtain ⟨y,hy,e⟩:=hc.par;exact ⟨_,gy hy,e⟩) (fun m hm e=>by
  obtain ⟨y,hy,rfl⟩:=ahs.1 hm;rw [hc.oth y hy e])
 rw [h.ndOf_ren hc.ok];refine ⟨⟨h.sok,fun y hy=>?_,by rw [h.ndOf_ren hc.ok];exact h1,fun y hy=>?_⟩,fun y hy=>h2 _ (gy hy)⟩
 ·obtain ⟨z,hz,rfl⟩:=ahs.1 hy;split
  ·rename_i hu;exact hc.all z hz hu
  ·exact h.ok z hz
 ·obtain ⟨z,hz,rfl⟩:=ahs.1 hy;split
  ·exact h.ids z hz
  ·exact h.ids z hz
theorem TOk.done {suf:List Rdn} {last:Int} {l:List (Ent α)} (h:TOk suf last l) (hl:0<=last) (k:Int) (dn tn:List Rdn) (v:α):TOk suf (doT suf l last k dn tn v).2 (doT suf l last k dn tn v).1/\last<=(doT suf l last k dn tn v).2/\(doT suf l last k dn tn v).2<=last+1/\(doT suf l last k dn tn v).1.length<=l.length+1:=by
 unfold doT;by_cases h0:d8 suf l k dn tn=0;rotate_left
 ·rw [if_pos h0];exact ⟨h,ajn _,by omega,Nat.le_succ _⟩
 rw [if_neg (by simpa using h0)];by_cases h1:k=1
 ·subst h1;rw [if_pos rfl];exact ⟨(h.add hl (h.canA h0).1 v).1,by simp only;omega,by simp only;omega,by simp [rR]⟩
 rw [if_neg h1];unfold d8 at h0;by_cases hk:k<1\/4<k
 ·rw [if_pos hk] at h0;exact absurd h0 (by decide)
 rw [if_neg hk,if_neg h1] at h0;cases hx:atE l dn with
 | none=>rw [hx] at h0;simp at h0
 | some x =>
   rw [hx] at h0;simp only at h0;have hf:aY l dn=x.id:=by unfold aY;rw [hx]
   rw [hf];by_cases h2:k=2
   ·rw [if_pos h2] at h0 ⊢;by_cases h3:aZ (dq l) (NK x.nm)=0
    ·exact ⟨(h.del (cH hx).2.1 h3).1,ajn _,by simp only;omega,Nat.le_succ_of_le (ai5 _ _)⟩
    ·rw [if_pos h3] at h0;exact absurd h0 (by decide)
   rw [if_neg h2] at h0 ⊢;by_cases h3:k=3
   ·rw [if_pos h3];exact ⟨h.cha _ _,ajn _,by simp only;omega,by simp [rK]⟩
   rw [if_neg h3] at h0 ⊢;exact ⟨(h.mov (h.canM hx h0)).1.cha _ _,ajn _,by simp only;omega,by simp [rK,mV]⟩
end Go.Proofs.YtobihfefmlgaoaaGreat.Av
