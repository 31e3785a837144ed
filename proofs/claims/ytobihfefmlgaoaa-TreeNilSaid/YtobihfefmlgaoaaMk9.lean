/- Joined texts of the walk, made small by a program. -/
import Derived.Test.YtobihfefmlgaoaaMk1
import Derived.Test.YtobihfefmlgaoaaMk8
import Derived.Sort.Statements
import Derived.Test.YtobihfefmlgaoaaMk5
import Derived.Test.YtobihfefmlgaoaaMk4
import Derived.Test.YtobihfefmlgaoaaRows
import Derived.KernelRfl
import Derived.Test.YtobihfefmlgaoaaMk7
import Derived.Test.YtobihfefmlgaoaaMk6
import Derived.Sort.Walk0
set_option linter.unusedSimpArgs false
set_option linter.unusedVariables false
namespace Go.Proofs.Ytobihfefmlgaoaa.Av
open Go
abbrev Pth:=List (List UInt8)
abbrev INm:=Int×Pth
def aG (l:List INm) (p:Pth):Nat:=(l.filter fun m=>decide (m.2≠[]/\m.2.tail=p)).length
structure jr (suf:Pth) (l:List INm):Prop where
 sne:suf≠[]
 nd:(l.map (·.2)).Nodup
 ids:(l.map (·.1)).Nodup
 un:∀ m∈l,suf <:+ m.2
 par:∀ m∈l,m.2=suf\/∃ k∈l,k.2=m.2.tail
theorem jr.nil {suf:Pth} (h:suf≠[]):jr suf []:=⟨h,by simp,by simp,fun _ h=>absurd h Gw,fun _ h=>absurd h Gw⟩
theorem cR {α β:Type} {f:α->β}:∀ {l:List α},(l.map f).Nodup->∀ {a b:α},a∈l->b∈l->f a=f b->a=b
 | [],_,a,_,h,_,_=>by cases h
 | x::l,h,a,b,ha,hb,e=>by
   rw [FQ,Gv] at h;rcases FX.1 ha with ea|ha'<;>rcases FX.1 hb with eb|hb'
   ·rw [ea,eb]
   ·exact (h.1 (FF.2 ⟨b,hb',by rw [<- e,ea]⟩)).elim
   ·exact (h.1 (FF.2 ⟨a,ha',by rw [e,eb]⟩)).elim
   ·exact cR h.2 ha' hb' e
theorem lp {α β:Type} {f:α->β}:∀ {l:List α},(l.map f).Nodup->l.Nodup
 | [],_=>List.nodup_nil
 | x::l,h=>by
   rw [FQ,Gv] at h;exact Gv.2 ⟨fun hm=>h.1 (FF.2 ⟨x,hm,rfl⟩),lp h.2⟩
theorem jr.byP {suf:Pth} {l:List INm} (h:jr suf l) {a b:INm} (ha:a∈l) (hb:b∈l) (e:a.2=b.2):a=b:=cR h.nd ha hb e
theorem jr.byI {suf:Pth} {l:List INm} (h:jr suf l) {a b:INm} (ha:a∈l) (hb:b∈l) (e:a.1=b.1):a=b:=cR h.ids ha hb e
theorem jr.ne {suf:Pth} {l:List INm} (h:jr suf l) {m:INm} (hm:m∈l):m.2≠[]:=fun e=>h.sne (by
 have:=h.un m hm;rw [e] at this;exact List.suffix_nil.1 this)
theorem jr.anc {suf:Pth} {l:List INm} (h:jr suf l):∀ (n:Nat) (k:INm) (y x:Pth),y.length=n->k∈l->k.2=y++x->suf <:+ x->∃ m∈l,m.2=x
 | 0,k,y,x,hy,hk,e,_=>⟨k,hk,by rw [e,List.eq_nil_of_length_eq_zero hy];rfl⟩
 | n+1,k,y,x,hy,hk,e,hs=>by
   obtain ⟨a,y',rfl⟩:∃ a y',y=a::y':=by
    cases y with
    | nil=>simp at hy
    | cons a y'=>exact ⟨a,y',rfl⟩
   rcases h.par k hk with e2|⟨p,hp,e2⟩
   ·have h1:=hs.length_le;rw [<- e2,e] at h1;simp at h1;omega
   ·rw [e] at e2;exact h.anc n p y' x (by simpa using hy) hp e2 hs
theorem jr.ancS {suf:Pth} {l:List INm} (h:jr suf l) {k:INm} {x:Pth} (hk:k∈l) (hx:x <:+ k.2) (hs:suf <:+ x):∃ m∈l,m.2=x:=by
 obtain ⟨y,e⟩:=hx;exact h.anc y.length k y x rfl hk e.symm hs
theorem jr.added {suf:Pth} {l:List INm} (h:jr suf l) {id:Int} {p:Pth} (hid:∀ m∈l,m.1≠id) (hno:∀ m∈l,m.2≠p) (hp:p=suf\/∃ k∈l,k.2=p.tail) :
  jr suf (l++[(id,p)])/\aG (l++[(id,p)]) p=0/\∀ q,aG (l++[(id,p)]) q=aG l q+if p.tail=q then 1 else 0:=by
 have hsp:suf <:+ p:=by
  rcases hp with rfl|⟨k,hk,e⟩
  ·exact List.suffix_refl _
  ·have:=h.un k hk;rw [e] at this;exact this.trans (Hc p)
 have hpne:p≠[]:=fun e=>h.sne (by rw [e] at hsp;exact List.suffix_nil.1 hsp)
 have hk:∀ q,aG (l++[(id,p)]) q=aG l q+if p.tail=q then 1 else 0:=fun q=>by
  unfold aG;rw [List.filter_append,FP]
  congr 1
  by_cases e:p.tail=q
  ·simp [e,hpne]
  ·simp [e]
 refine ⟨⟨h.sne,?_,?_,?_,?_⟩,?_,hk⟩
 ·rw [FZ,Hq];refine ⟨h.nd,by simp,?_⟩;intro a ha b hb e;obtain ⟨m,hm,rfl⟩:=FF.1 ha;simp only [FQ,GD,FM] at hb;exact hno m hm (e.trans hb)
 ·rw [FZ,Hq];refine ⟨h.ids,by simp,?_⟩;intro a ha b hb e;obtain ⟨m,hm,rfl⟩:=FF.1 ha;simp only [FQ,GD,FM] at hb;exact hid m hm (e.trans hb)
 ·intro m hm;rcases FE.1 hm with hm|hm
  ·exact h.un m hm
  ·rw [FM.1 hm];exact hsp
 ·intro m hm;rcases FE.1 hm with hm|hm
  ·rcases h.par m hm with e|⟨k,hk,e⟩
   ·exact .inl e
   ·exact .inr ⟨k,Gt _ hk,e⟩
  ·rw [FM.1 hm];rcases hp with e|⟨k,hk,e⟩
   ·exact .inl e
   ·exact .inr ⟨k,Gt _ hk,e⟩
 ·rw [hk p];have h0:¬ p.tail=p:=fun e=>by
   have:=congrArg List.length e;rw [G6] at this;have:=Gn.2 hpne;omega
  rw [if_neg h0];have:aG l p=0:=by
   unfold aG;rw [F8,List.filter_eq_nil_iff];intro m hm hc;simp only [decide_eq_true_eq] at hc;rcases h.par m hm with e|⟨k,hk,e⟩
   ·have:=hsp.length_le;rw [<- hc.2,e,G6] at this;have:=Gn.2 h.sne;omega
   ·exact hno k hk (e.trans hc.2)
  rw [this]
theorem jr.deleted {suf:Pth} {l:List INm} (h:jr suf l) {id:Int} {p:Pth} (hm:(id,p)∈l) (h0:aG l p=0) :
  jr suf (l.filter fun m=>decide (m.1≠id))/\∀ q,aG (l.filter fun m=>decide (m.1≠id)) q+(if p.tail=q then 1 else 0)=aG l q:=by
 have sub:∀ m∈l.filter (fun m=>decide (m.1≠id)),m∈l/\m.1≠id:=fun m hm=>by simpa using F9.1 hm
 refine ⟨⟨h.sne,(List.filter_sublist.map _).nodup h.nd,(List.filter_sublist.map _).nodup h.ids,fun m hm=>h.un m (sub m hm).1,fun m hm'=>?_⟩,fun q=>?_⟩
 ·obtain ⟨hml,hmi⟩:=sub m hm';rcases h.par m hml with e|⟨k,hk,e⟩
  ·exact .inl e
  ·refine .inr ⟨k,?_,e⟩;simp only [F9,decide_eq_true_eq];refine ⟨hk,fun e2=>?_⟩;have:k=(id,p):=h.byI hk hm e2;subst this;unfold aG at h0;rw [F8,List.filter_eq_nil_iff] at h0;exact h0 m hml (by simp only [decide_eq_true_eq];exact ⟨h.ne hml,e.symm⟩)
 ·have key:∀ l:List INm,(l.map (·.1)).Nodup->(id,p)∈l->p≠[]->aG (l.filter fun m=>decide (m.1≠id)) q+(if p.tail=q then 1 else 0)=aG l q:=by
   intro l
   induction l with
   | nil=>intro _ h;cases h
   | cons a l ih =>
     intro hn hm hpne;rw [FQ,Gv] at hn;rcases FX.1 hm with rfl|hm
     ·have:l.filter (fun m=>decide (m.1≠id))=l:=List.filter_eq_self.2 fun m hm=>by
       simp only [decide_eq_true_eq];intro e;exact hn.1 (FF.2 ⟨m,hm,e⟩)
      rw [HF (by simp),this];unfold aG;by_cases e:p.tail=q
      ·rw [HG (by simp [hpne,e]),if_pos e];rfl
      ·rw [HF (by simp [e]),if_neg e];rfl
     ·have ha:a.1≠id:=fun e=>hn.1 (by rw [e];exact H2 (f:=(·.1)) hm)
      rw [HG (by simpa using ha)];have:=ih hn.2 hm hpne;unfold aG at this ⊢;by_cases e:a.2≠[]/\a.2.tail=q
      ·rw [HG (by simpa using e),HG (by simpa using e)];simp only [FT];omega
      ·rw [HF (by simpa using e),HF (by simpa using e)];exact this
  exact key l h.ids hm (h.ne hm)
def ren (p q x:Pth):Pth:=if p <:+ x then x.take (x.length - p.length)++q else x
theorem dI (p q y:Pth):ren p q (y++p)=y++q:=by
 unfold ren;rw [if_pos (List.suffix_append ..)];simp
theorem dw {p q x:Pth} (h:¬ p <:+ x):ren p q x=x:=by unfold ren;rw [if_neg h]
theorem ti {α:Type} {f g:α->Bool} {a:α}:∀ {l:List α},l.Nodup->a∈l->(∀ k∈l,k≠a->f k=g k)->(l.filter f).length+(if g a=true then 1 else 0)=(l.filter g).length+(if f a=true then 1 else 0)
 | [],_,h,_=>by cases h
 | x::l,hn,hm,he=>by
   obtain ⟨h1,h2⟩:=Gv.1 hn;by_cases hx:x=a
   ·subst hx;have:l.filter f=l.filter g:=List.filter_congr fun k hk=>he k (by simp [hk]) fun e=>h1 (e ▸ hk)
    simp only [List.filter_cons,this];cases f x<;>cases g x<;>simp
   ·have hm':a∈l:=by
     rcases FX.1 hm with e|e
     ·exact absurd e.symm hx
     ·exact e
    have ih:=ti h2 hm' fun k hk=>he k (by simp [hk])
    have e:=he x (by simp) hx;simp only [List.filter_cons,e];cases g x<;>simp<;>omega
theorem jr.moved {suf:Pth} {l:List INm} (h:jr suf l) {id:Int} {p q:Pth} (hm:(id,p)∈l) (hps:p≠suf) (hq:q≠[]) (hnu:¬ p <:+ q.tail) (hqt:∃ k∈l,k.2=q.tail) (hqo:∀ m∈l,m.2=q->m.1=id) :
  jr suf (l.map fun m=>(m.1,ren p q m.2))/\∀ m∈l,(aG (l.map fun m=>(m.1,ren p q m.2)) (ren p q m.2):Int)=aG l m.2+(if m.2=q.tail then 1 else 0) - (if m.2=p.tail then 1 else 0):=by
 have hsq:suf <:+ q:=by
  obtain ⟨k,hk,e⟩:=hqt;have:=h.un k hk;rw [e] at this;exact this.trans (Hc q)
 have hsp:=h.un _ hm;have hpne:=h.ne hm;have hqk:∀ k∈l,q <:+ k.2->p <:+ k.2:=fun k hk hs=>by
  obtain ⟨m,hm',e⟩:=h.ancS hk hs hsq;have:m=(id,p):=h.byI hm' hm (hqo m hm' e);subst this;rw [show p=q from e];exact hs
 have inj:∀ a∈l,∀ b∈l,ren p q a.2=ren p q b.2->a=b:=fun a ha b hb e=>by
  by_cases h1:p <:+ a.2<;>by_cases h2:p <:+ b.2
  ·obtain ⟨y,e1⟩:=h1;obtain ⟨z,e2⟩:=h2;rw [<- e1,<- e2,dI,dI] at e;exact h.byP ha hb (by rw [<- e1,<- e2,List.append_cancel_right e])
  ·obtain ⟨y,e1⟩:=h1;rw [<- e1,dI,dw h2] at e;exact absurd (hqk b hb ⟨y,e⟩) h2
  ·obtain ⟨z,e2⟩:=h2;rw [<- e2,dI,dw h1] at e;exact absurd (hqk a ha ⟨z,e.symm⟩) h1
  ·rw [dw h1,dw h2] at e;exact h.byP ha hb e
 have parP:∀ k∈l,p <:+ k.2->∃ j∈l,j.2=k.2.tail:=fun k hk hs=>by
  rcases h.par k hk with e|e
  ·rw [e] at hs;exact absurd (hs.eq_of_length_le hsp.length_le) hps
  ·exact e
 have tl:∀ y:Pth,y≠[]->(y++q).tail=y.tail++q/\(y++p).tail=y.tail++p:=fun y hy=>by
  cases y with
  | nil=>exact absurd rfl hy
  | cons a y=>exact ⟨rfl,rfl⟩
 have lnd:l.Nodup:=lp h.ids;refine ⟨⟨h.sne,?_,by rw [FR];exact h.ids,?_,?_⟩,?_⟩
 ·rw [FR];have:∀ l':List INm,(∀ x∈l',x∈l)->l'.Nodup->(l'.map ((·.2) ∘ fun m:INm=>(m.1,ren p q m.2))).Nodup:=by
   intro l'
   induction l' with
   | nil=>intro _ _;simp
   | cons a l' ih =>
     intro hs hn;obtain ⟨n1,n2⟩:=Gv.1 hn;rw [FQ,Gv];refine ⟨fun hc=>?_,ih (fun x hx=>hs x (by simp [hx])) n2⟩;obtain ⟨b,hb,e⟩:=FF.1 hc;exact n1 (inj b (hs b (by simp [hb])) a (hs a (by simp)) e ▸ hb)
  exact this l (fun _ h=>h) lnd
 ·intro m hm';obtain ⟨k,hk,rfl⟩:=FF.1 hm';simp only;by_cases hs:p <:+ k.2
  ·obtain ⟨y,e⟩:=hs;rw [<- e,dI];exact hsq.trans (List.suffix_append ..)
  ·rw [dw hs];exact h.un k hk
 ·intro m hm';obtain ⟨k,hk,rfl⟩:=FF.1 hm';simp only;by_cases hs:p <:+ k.2
  ·obtain ⟨y,e⟩:=hs;rw [<- e,dI];right;by_cases hy:y=[]
   ·subst hy;obtain ⟨j,hj,ej⟩:=hqt;exact ⟨_,H2 hj,by simp only;rw [ej,dw hnu];rfl⟩
   ·obtain ⟨j,hj,ej⟩:=parP k hk ⟨y,e⟩;rw [<- e,(tl y hy).2] at ej;exact ⟨_,H2 hj,by simp only;rw [ej,dI,(tl y hy).1]⟩
  ·rw [dw hs];rcases h.par k hk with e|⟨j,hj,ej⟩
   ·exact .inl e
   ·refine .inr ⟨_,H2 hj,?_⟩;simp only;rw [ej,dw (fun hc=>hs (hc.trans (Hc _)))]
 ·intro m hml;have hqne:∀ y:Pth,y++q≠[]:=fun y e=>hq (Ia.1 e).2
  have e1:aG (l.map fun m=>(m.1,ren p q m.2)) (ren p q m.2)=(l.filter fun k=>decide (ren p q k.2≠[]/\(ren p q k.2).tail=ren p q m.2)).length:=by
   unfold aG;rw [List.filter_map,FS];rfl
  have hd:=ti (f:=fun k:INm=>decide (ren p q k.2≠[]/\(ren p q k.2).tail=ren p q m.2)) (g:=fun k:INm=>decide (k.2≠[]/\k.2.tail=m.2)) lnd hm fun k hk hne=>by
   congr 1
   apply propext;by_cases hs:p <:+ k.2
   ·obtain ⟨j,hj,ej⟩:=parP k hk hs;obtain ⟨y,e⟩:=hs;have hy:y≠[]:=fun e2=>by
     subst e2;exact hne (h.byP hk hm e.symm)
    rw [<- e] at ej ⊢;rw [dI,(tl y hy).1,(tl y hy).2];rw [(tl y hy).2] at ej;constructor
    ·rintro ⟨_,e3⟩;refine ⟨fun e4=>hpne (Ia.1 e4).2,?_⟩;have:j=m:=inj j hj m hml (by rw [ej,dI,e3]);rw [<- this,ej]
    ·rintro ⟨_,e3⟩;exact ⟨hqne _,by rw [<- e3,dI]⟩
   ·rw [dw hs];by_cases hr:p <:+ m.2
    ·obtain ⟨y,e⟩:=hr;rw [<- e,dI];constructor
     ·rintro ⟨_,e3⟩;exact absurd (hqk k hk (List.IsSuffix.trans (⟨y,e3.symm⟩:q <:+ k.2.tail) (Hc _))) hs
     ·rintro ⟨_,e3⟩;exact absurd (List.IsSuffix.trans (⟨y,e3.symm⟩:p <:+ k.2.tail) (Hc _)) hs
    ·rw [dw hr]
  rw [<- e1] at hd;have f1:decide (ren p q (id,p).2≠[]/\(ren p q (id,p).2).tail=ren p q m.2)=decide (m.2=q.tail):=by
   have e2:ren p q p=q:=by have:=dI p q [];simpa using this
   simp only [e2]
   congr 1
   apply propext;by_cases hr:p <:+ m.2
   ·obtain ⟨y,e⟩:=hr;rw [<- e,dI];constructor
    ·rintro ⟨_,e3⟩;have:=congrArg List.length e3;rw [G6,FP] at this;have:=Gn.2 hq;omega
    ·intro e3;exact absurd ⟨y,e3⟩ hnu
   ·rw [dw hr];exact ⟨fun e3=>e3.2.symm,fun e3=>⟨hq,e3.symm⟩⟩
  have g1:decide ((id,p).2≠[]/\(id,p).2.tail=m.2)=decide (m.2=p.tail):=by
   congr 1
   apply propext;exact ⟨fun e3=>e3.2.symm,fun e3=>⟨hpne,e3.symm⟩⟩
  simp only [f1,g1,decide_eq_true_eq] at hd;have hd':aG (l.map fun m=>(m.1,ren p q m.2)) (ren p q m.2)+(if m.2=p.tail then 1 else 0)=aG l m.2+(if m.2=q.tail then 1 else 0):=hd;clear hd
  revert hd'
  split<;>split<;>intro hd'<;>omega
def NK (d:List Rdn):Pth:=d.map (bG true)
def OkD (d:List Rdn):Prop:=(prS d).2=0
instance (d:List Rdn):Decidable (OkD d):=inferInstanceAs (Decidable (_=_))
theorem tq:∀ (d:List Rdn) (i:Nat),i<=32->(gk i d=0↔i+d.length<=32/\∀ r∈d,r≠[]/\cS [] r=0)
 | [],i,h=>by simp [gk,h]
 | r::d,i,h=>by
   unfold gk;by_cases h1:i=32
   ·rw [if_pos h1];constructor
    ·intro h;exact absurd h (by decide)
    ·rintro ⟨h2,_⟩;simp at h2;omega
   rw [if_neg h1];by_cases h2:r=[]
   ·rw [if_pos h2];constructor
    ·intro h;exact absurd h (by decide)
    ·rintro ⟨_,h3⟩;exact absurd h2 (h3 r (by simp)).1
   rw [if_neg h2];by_cases h3:cS [] r=0
   ·rw [if_neg (by simpa using h3),tq d (i+1) (by omega)];constructor
    ·rintro ⟨h4,h5⟩;refine ⟨by simp;omega,fun x hx=>?_⟩;rcases FX.1 hx with rfl|hx
     ·exact ⟨h2,h3⟩
     ·exact h5 x hx
    ·rintro ⟨h4,h5⟩;exact ⟨by simp at h4;omega,fun x hx=>h5 x (by simp [hx])⟩
   ·rw [if_pos h3];constructor
    ·intro h;exact absurd h h3
    ·rintro ⟨_,h4⟩;exact absurd (h4 r (by simp)).2 h3
theorem ql (d:List Rdn):OkD d↔d.length<=32/\(∀ r∈d,r≠[]/\cS [] r=0)/\oD d=false/\(aE false d).length<=4096:=by
 have hc:=tq d 0 (by omega);unfold OkD prS;by_cases h1:gk 0 d=0
 ·rw [if_neg (by simpa using h1)];have:=hc.1 h1;by_cases h2:oD d=true
  ·rw [if_pos h2];constructor
   ·intro h;exact absurd h (by decide)
   ·rintro ⟨_,_,h3,_⟩;rw [h2] at h3;cases h3
  rw [if_neg h2];by_cases h3:4096<(aE false d).length
  ·rw [if_pos h3];constructor
   ·intro h;exact absurd h (by decide)
   ·rintro ⟨_,_,_,h4⟩;omega
  rw [if_neg h3];exact ⟨fun _=>⟨by omega,this.2,by simpa using h2,by omega⟩,fun _=>rfl⟩
 ·rw [if_pos h1];constructor
  ·intro h;exact absurd h h1
  ·rintro ⟨h2,h3,_⟩;exact absurd (hc.2 ⟨by omega,h3⟩) h1
theorem OkD.nil:OkD []:=(ql []).2 ⟨by simp,by simp,by rfl,by decide⟩
theorem zM (k:Bool) (c d:List Rdn):(aE k d).length<=(aE k (c++d)).length:=by
 have h1:=gj (d.map (bG k)) 44;have h2:=gj ((c++d).map (bG k)) 44;rw [FZ,FZ,List.sum_append,FP] at h2;unfold aE;rw [FZ];by_cases hd:d.map (bG k)=[]
 ·rw [hd];simp [Lib.join]
 ·rw [if_neg hd] at h1;rw [if_neg (by simp only [Ia,not_and];exact fun _=>hd)] at h2;omega
theorem OkD.app {c d:List Rdn} (h:OkD (c++d)):OkD d:=by
 rw [ql] at h ⊢;obtain ⟨h1,h2,h3,h4⟩:=h;refine ⟨by simp at h1;omega,fun r hr=>h2 r (by simp [hr]),?_,F3 (zM _ _ _) h4⟩;unfold oD at h3 ⊢;rw [HV,HC] at h3;exact h3.2
theorem OkD.drop {d:List Rdn} (h:OkD d) (n:Nat):OkD (d.drop n):=OkD.app (c:=d.take n) (by rw [G5];exact h)
theorem OkD.tail {d:List Rdn} (h:OkD d):OkD d.tail:=by rw [<- List.drop_one];exact h.drop 1
theorem OkD.len {d:List Rdn} (h:OkD d):d.length<=32:=((ql d).1 h).1
theorem iw {d:List Rdn} (h:OkD d):uS d=(aE true d,0):=by
 unfold uS;rw [if_neg (by simpa [OkD] using h)]
theorem uR {d:List Rdn} (h:¬ OkD d):(uS d).2≠0:=by
 unfold uS;rw [if_pos (show (prS d).2≠0 from h)];exact h
theorem OkD.plain {d:List Rdn} (h:OkD d):D2 (aE true d)=(ln d,0):=by
 obtain ⟨h1,h2,h3,h4⟩:=(ql d).1 h;have hc:gk 0 d=0:=(tq d 0 (by omega)).2 ⟨by omega,h2⟩;have:=vx d;rw [<- sH d];exact Br (tp d 0 hc) (by rw [sH];omega)
theorem wx (d:List Rdn):NK (ln d)=NK d:=by
 unfold NK ln;rw [FR];rw [show (bG true ∘ ji)=bG true from funext wQ]
theorem fP {d e:List Rdn} (hd:OkD d) (he:OkD e):aE true d=aE true e↔NK d=NK e:=by
 constructor
 ·intro h;have h1:=hd.plain;rw [h,he.plain] at h1;have:ln e=ln d:=by injection h1
  rw [<- wx d,<- this,wx]
 ·intro h;unfold NK at h;unfold aE;rw [h]
theorem aZ (d:List Rdn):(NK d).length=d.length:=by simp [NK]
theorem xD {d:List Rdn}:NK d=[]↔d=[]:=by simp [NK]
theorem Ep (c d:List Rdn):NK (c++d)=NK c++NK d:=by simp [NK]
theorem ym (d:List Rdn) (n:Nat):NK (d.drop n)=(NK d).drop n:=by simp [NK]
theorem qF (d:List Rdn):NK d.tail=(NK d).tail:=by simp [NK]
def dJ (d b:List Rdn):Bool:=decide (OkD d) && decide (OkD b) && decide (b.length<=d.length) && decide (aE true (d.drop (d.length - b.length))=aE true b)
theorem cc {d b:List Rdn}:dJ d b=true↔OkD d/\OkD b/\NK b <:+ NK d:=by
 unfold dJ;simp only [FG,decide_eq_true_eq];constructor
 ·rintro ⟨⟨⟨h1,h2⟩,h3⟩,h4⟩;refine ⟨h1,h2,?_⟩;rw [fP (h1.drop _) h2,ym] at h4;rw [<- h4];exact List.drop_suffix _ _
 ·rintro ⟨h1,h2,h3⟩;have hl:=h3.length_le;rw [aZ,aZ] at hl;refine ⟨⟨⟨h1,h2⟩,hl⟩,?_⟩;rw [fP (h1.drop _) h2,ym];obtain ⟨y,e⟩:=h3;have:y.length=d.length - b.length:=by
   have:=congrArg List.length e;rw [FP,aZ,aZ] at this;omega
  rw [<- e,<- this,List.drop_left]
def qI (a b:List Rdn):Bool:=decide (a.length=b.length) && dJ a b
theorem vA {a b:List Rdn}:qI a b=true↔OkD a/\OkD b/\NK a=NK b:=by
 unfold qI;rw [FG,decide_eq_true_eq,cc];constructor
 ·rintro ⟨h1,h2,h3,h4⟩;exact ⟨h2,h3,(h4.eq_of_length (by rw [aZ,aZ,h1])).symm⟩
 ·rintro ⟨h1,h2,h3⟩;exact ⟨by rw [<- aZ,h3,aZ],h1,h2,by rw [h3];exact List.suffix_refl _⟩
structure Ent (α:Type) where
 id:Int
 nm:List Rdn
 av:α
variable {α:Type}
def b9 (l:List (Ent α)):List INm:=l.map fun x=>(x.id,NK x.nm)
structure TOk (suf:List Rdn) (last:Int) (l:List (Ent α)):Prop where
 sok:OkD suf
 ok:∀ x∈l,OkD x.nm
 inv:jr (NK suf) (b9 l)
 ids:∀ x∈l,1<=x.id/\x.id<=last
theorem dC {l:List (Ent α)} {x:Ent α} (h:x∈l):(x.id,NK x.nm)∈b9 l:=FF.2 ⟨x,h,rfl⟩
theorem TOk.byN {suf:List Rdn} {last:Int} {l:List (Ent α)} (h:TOk suf last l) {a b:Ent α} (ha:a∈l) (hb:b∈l) (e:NK a.nm=NK b.nm):a=b:=by
 have hn:=h.inv.nd;unfold b9 at hn;rw [FR] at hn;exact cR hn ha hb e
theorem TOk.byI {suf:List Rdn} {last:Int} {l:List (Ent α)} (h:TOk suf last l) {a b:Ent α} (ha:a∈l) (hb:b∈l) (e:a.id=b.id):a=b:=by
 have hn:=h.inv.ids;unfold b9 at hn;rw [FR] at hn;exact cR hn ha hb e
def atE (l:List (Ent α)) (d:List Rdn):Option (Ent α):=if OkD d then l.find? (fun x=>decide (NK x.nm=NK d)) else none
def aH (l:List (Ent α)) (d:List Rdn):Int:=match atE l d with|some x=>x.id|none=>0
def qz (l:List (Ent α)) (id:Int):Option (Ent α):=l.find? (fun x=>decide (x.id=id))
def dY (l:List (Ent α)) (id:Int):Nat:=match qz l id with|some x=>aG (b9 l) (NK x.nm)|none=>0
theorem bF {l:List (Ent α)} {d:List Rdn} {x:Ent α} (h:atE l d=some x):OkD d/\x∈l/\NK x.nm=NK d:=by
 unfold atE at h;split at h
 ·rename_i h1
  exact ⟨h1,GU h,by simpa using GT h⟩
 ·cases h
theorem TOk.at {suf:List Rdn} {last:Int} {l:List (Ent α)} (h:TOk suf last l) {x:Ent α} (hx:x∈l) {d:List Rdn} (hd:OkD d) (e:NK d=NK x.nm):atE l d=some x:=by
 unfold atE;rw [if_pos hd];cases hf:l.find? (fun x=>decide (NK x.nm=NK d)) with
 | none=>exact absurd e.symm (by simpa using GS.1 hf x hx)
 | some y=>rw [h.byN (GU hf) hx (by rw [<- e];simpa using GT hf)]
theorem k9 {l:List (Ent α)} {d:List Rdn}:atE l d=none↔(OkD d->∀ x∈l,NK x.nm≠NK d):=by
 unfold atE;split
 ·rename_i h
  rw [GS];simp only [decide_eq_true_eq];exact ⟨fun h1 _=>h1,fun h1=>h1 h⟩
 ·rename_i h
  exact ⟨fun _ h1=>absurd h1 h,fun _=>rfl⟩
theorem TOk.ent {suf:List Rdn} {last:Int} {l:List (Ent α)} (h:TOk suf last l) {x:Ent α} (hx:x∈l):qz l x.id=some x:=by
 unfold qz;cases hf:l.find? (fun y=>decide (y.id=x.id)) with
 | none=>exact absurd (GS.1 hf x hx) (by simp)
 | some y=>rw [h.byI (GU hf) hx (by simpa using GT hf)]
theorem TOk.find0 {suf:List Rdn} {last:Int} {l:List (Ent α)} (h:TOk suf last l) {d:List Rdn}:aH l d=0↔atE l d=none:=by
 unfold aH;cases hf:atE l d with
 | none=>simp
 | some x =>
   have:=h.ids x (bF hf).2.1;simp only [reduceCtorEq,iff_false];omega
theorem TOk.kids {suf:List Rdn} {last:Int} {l:List (Ent α)} (h:TOk suf last l) {x:Ent α} (hx:x∈l):aG (b9 l) (NK x.nm)=(l.filter fun k=>decide (k.nm.length=x.nm.length+1) && dJ k.nm x.nm).length:=by
 unfold aG b9;rw [List.filter_map,FS]
 congr 1
 refine List.filter_congr fun k hk=>?_
 rw [Bool.eq_iff_iff];simp only [GR,FG,decide_eq_true_eq,cc];constructor
 ·rintro ⟨h1,h2⟩;have hl:=congrArg List.length h2;have h3:=Gn.2 h1;rw [G6,aZ,aZ] at hl;rw [aZ] at h3;exact ⟨by omega,h.ok k hk,h.ok x hx,by rw [<- h2];exact Hc _⟩
 ·rintro ⟨h1,_,_,h2⟩;have hne:NK k.nm≠[]:=fun e=>by
   have:=congrArg List.length e;rw [aZ,Gu] at this;omega
  refine ⟨hne,?_⟩;obtain ⟨y,e⟩:=h2;have hy:=congrArg List.length e;rw [FP,aZ,aZ] at hy;obtain ⟨a,rfl⟩:∃ a,y=[a]:=List.length_eq_one_iff.1 (by omega);rw [<- e];rfl
open Go Go.Sort
def cpS (a b:List UInt8):Int:=if a<b then -1 else if b<a then 1 else 0
def cpP:Pth->Pth->Int
 | [],[]=>0
 | [],_::_=>-1
 | _::_,[]=>1
 | x::a,y::b=>if cpS x y≠0 then cpS x y else cpP a b
theorem Ca (a:List UInt8):¬ a<a:=List.lt_irrefl a
theorem Dg {a b:List UInt8} (h:a<b):¬ b<a:=List.lt_asymm h
theorem B9 {a b c:List UInt8} (h1:a<b) (h2:b<c):a<c:=List.lt_trans h1 h2
theorem B8 {a b:List UInt8} (h1:¬ a<b) (h2:¬ b<a):a=b:=List.le_antisymm (List.not_lt.1 h2) (List.not_lt.1 h1)
theorem kZ (a b:List UInt8):(a<b/\cpS a b=-1)\/(a=b/\cpS a b=0)\/(b<a/\cpS a b=1):=by
 unfold cpS;by_cases h1:a<b
 ·exact .inl ⟨h1,if_pos h1⟩
 ·rw [if_neg h1];by_cases h2:b<a
  ·exact .inr (.inr ⟨h2,if_pos h2⟩)
  ·exact .inr (.inl ⟨B8 h1 h2,if_neg h2⟩)
theorem B3 (a:List UInt8):cpS a a=0:=by unfold cpS;rw [if_neg (Ca a),if_neg (Ca a)]
theorem B4 {a b:List UInt8} (h:a<b):cpS a b=-1:=if_pos h
theorem Ee {a b:List UInt8} (h:b<a):cpS a b=1:=by unfold cpS;rw [if_neg (Dg h),if_pos h]
theorem wm:∀ (a b:Pth),cpP b a=- cpP a b
 | [],[]=>rfl
 | [],_::_=>rfl
 | _::_,[]=>rfl
 | x::a,y::b=>by
   unfold cpP;rcases kZ x y with ⟨h,e⟩|⟨h,e⟩|⟨h,e⟩
   ·rw [e,Ee h];rfl
   ·subst h;rw [e];simp only [ne_eq,not_true_eq_false,if_false];exact wm a b
   ·rw [e,B4 h];rfl
theorem wj:∀ {a b:Pth},cpP a b=0->a=b
 | [],[],_=>rfl
 | [],_::_,h=>by simp [cpP] at h
 | _::_,[],h=>by simp [cpP] at h
 | x::a,y::b,h=>by
   unfold cpP at h;rcases kZ x y with ⟨h1,e⟩|⟨h1,e⟩|⟨h1,e⟩
   ·rw [e] at h;simp at h
   ·subst h1;rw [e] at h;simp only [ne_eq,not_true_eq_false,if_false] at h;rw [wj h]
   ·rw [e] at h;simp at h
theorem wl:∀ a:Pth,cpP a a=0
 | []=>rfl
 | x::a=>by
   unfold cpP;rw [B3];simpa using wl a
theorem uy:∀ {a b c:Pth},cpP a b<0->cpP b c<0->cpP a c<0
 | [],[],_,h,_=>by exact absurd h (by decide)
 | [],_::_,[],_,h=>by exact absurd h (by show ¬ (1:Int)<0;decide)
 | [],_::_,_::_,_,_=>by show (-1:Int)<0;decide
 | _::_,[],_,h,_=>by exact absurd h (by show ¬ (1:Int)<0;decide)
 | _::_,_::_,[],_,h=>by exact absurd h (by show ¬ (1:Int)<0;decide)
 | x::a,y::b,z::c,h1,h2=>by
   unfold cpP at h1 h2 ⊢;rcases kZ x y with ⟨k1,e1⟩|⟨k1,e1⟩|⟨k1,e1⟩
   ·rcases kZ y z with ⟨k2,e2⟩|⟨k2,e2⟩|⟨k2,e2⟩
    ·rw [B4 (B9 k1 k2)];simp
    ·subst k2;rw [e1];simp
    ·rw [e2] at h2;simp at h2
   ·subst k1;rcases kZ x z with ⟨k2,e2⟩|⟨k2,e2⟩|⟨k2,e2⟩
    ·rw [e2];simp
    ·subst k2;rw [e1] at h1 h2;rw [e1];simp only [ne_eq,not_true_eq_false,if_false] at h1 h2 ⊢;exact uy h1 h2
    ·rw [e2] at h2;simp at h2
   ·rw [e1] at h1;simp at h1
def pLt (a b:Pth):Bool:=decide (cpP a b<0)
theorem xV (a:Pth):pLt a a=false:=by unfold pLt;rw [wl];rfl
theorem qL {a b c:Pth} (h1:pLt a b=true) (h2:pLt b c=true):pLt a c=true:=by
 unfold pLt at *;rw [decide_eq_true_eq] at *;exact uy h1 h2
theorem uP {a b:Pth} (h1:pLt a b=false) (h2:pLt b a=false):a=b:=by
 unfold pLt at *;rw [decide_eq_false_iff_not] at *;rw [wm a b] at h2;exact wj (by omega)
theorem vI {a b:Pth} (h:pLt a b=true):pLt b a=false:=by
 cases h2:pLt b a with
 | false=>rfl
 | true=>have:=qL h h2;rw [xV] at this;cases this
theorem oK {a b c:Pth} (h1:pLt a b=false) (h2:pLt b c=false):pLt a c=false:=by
 cases h3:pLt a c with
 | false=>rfl
 | true =>
   cases h4:pLt b a with
   | true=>have:=qL h4 h3;rw [h2] at this;cases this
   | false=>have:=uP h1 h4;subst this;rw [h2] at h3;cases h3
theorem CW {β:Type} (f:β->Pth):SWO (fun x y=>pLt (f x) (f y)) :=
 ⟨fun x=>xV _,fun x y z=>qL,fun x y z=>oK⟩
variable {α:Type}
def pth (x:Ent α):Pth:=(NK x.nm).reverse
def leE (x y:Ent α):Bool := !pLt (pth y) (pth x)
def dE (a:Ent α) (s:Int) (x:Ent α):Bool:=dJ x.nm a.nm && (decide (s=2) || decide ((x.nm.length:Int) - a.nm.length=s))
def scL (l:List (Ent α)) (a:Ent α) (s:Int):List (Ent α):=(l.filter (dE a s)).mergeSort leE
def scT (l:List (Ent α)) (id s:Int):List Int:=match qz l id with|none=>[]|some a=>if s<0\/2<s then [] else (scL l a s).map (·.id)
theorem uK {x y:Ent α} (h:pth x=pth y):NK x.nm=NK y.nm:=by
 have:=congrArg List.reverse h;simpa [pth] using this
theorem uo (a b c:Ent α) (h1:leE a b=true) (h2:leE b c=true):leE a c=true:=by
 unfold leE at *;simp only [F6] at *;exact oK h2 h1
theorem uq (a b:Ent α):(leE a b || leE b a)=true:=by
 unfold leE;cases h:pLt (pth b) (pth a) with
 | false=>rfl
 | true=>rw [vI h];rfl
theorem TOk.one {suf:List Rdn} {last:Int} {l:List (Ent α)} (h:TOk suf last l) {a:Ent α} {s:Int} {m:List (Ent α)} (hp:m.Perm (l.filter (dE a s))) (hs:m.Pairwise fun x y=>leE x y=true):m=scL l a s:=by
 have h2:=H0 (le:=leE) (fun a b c=>uo a b c) uq (l.filter (dE a s));have hq:(scL l a s).Perm (l.filter (dE a s)):=G0 _ _;refine H9 (le:=fun x y=>leE x y=true) (fun x y hx hy e1 e2=>?_) hs h2 (hp.trans hq.symm);have mx:x∈l:=(F9.1 (hp.mem_iff.1 hx)).1;have my:y∈l:=(F9.1 (hq.mem_iff.1 hy)).1;unfold leE at e1 e2;simp only [F6] at e1 e2;exact h.byN mx my (uK (uP e2 e1))
def uV (x:Ent α) (l:List (Ent α)):Nat->Nat
 | 0=>0
 | k+1=>match l[k]? with|some y=>if pLt (pth x) (pth y) then uV x l k else k+1|none=>k+1
def yV (x:Ent α) (l:List (Ent α)):List (Ent α):=l.take (uV x l l.length)++[x]++l.drop (uV x l l.length)
theorem ut (x:Ent α) (l:List (Ent α)):∀ k,k<=l.length->uV x l k<=k/\(∀ j y,uV x l k<=j->j<k->l[j]?=some y->pLt (pth x) (pth y)=true)/\(∀ y,uV x l k≠0->l[uV x l k - 1]?=some y->pLt (pth x) (pth y)=false)
 | 0,_=>⟨Fz _,fun j _ _ h=>absurd h (HO _),fun y h=>absurd rfl h⟩
 | k+1,h=>by
   unfold uV;have hk:l[k]?=some l[k]:=FN (by omega);rw [hk];simp only;by_cases hc:pLt (pth x) (pth l[k])=true
   ·rw [if_pos hc];obtain ⟨h1,h2,h3⟩:=ut x l k (by omega);refine ⟨by omega,fun j y hj1 hj2 he=>?_,h3⟩;by_cases e:j=k
    ·subst e;rw [hk] at he;injection he with he
     rw [<- he];exact hc
    ·exact h2 j y hj1 (by omega) he
   ·rw [if_neg hc];refine ⟨Fz _,fun j y h1 h2=>by omega,fun y _ he=>?_⟩;rw [Nat.add_sub_cancel,hk] at he;injection he with he
    rw [<- he];simpa using hc
theorem yU (x:Ent α) (l:List (Ent α)):(yV x l).Perm (l++[x]):=by
 unfold yV;rw [FO];refine (List.perm_append_comm_assoc _ _ _).trans ?_;rw [G5];exact List.perm_append_comm
theorem vW {x:Ent α} {l:List (Ent α)} (hs:l.Pairwise fun x y=>leE x y=true):(yV x l).Pairwise fun x y=>leE x y=true:=by
 obtain ⟨h1,h2,h3⟩:=ut x l l.length (Fz _);unfold yV;obtain ⟨k,hk⟩:=Fq (uV x l l.length);rw [hk] at h1 h2 h3 ⊢;have hup:∀ y∈l.drop k,pLt (pth x) (pth y)=true:=fun y hy=>by
  obtain ⟨j,hj,e⟩:=GM.1 hy;rw [List.getElem_drop] at e;rw [HZ] at hj;exact h2 (k+j) y (by omega) (by omega) (by rw [FN (by omega),e])
 have hdn:∀ y∈l.take k,pLt (pth x) (pth y)=false:=fun y hy=>by
  obtain ⟨j,hj,e⟩:=GM.1 hy;rw [HX] at e;rw [GC] at hj;have hk0:k≠0:=by omega
  have hl:l[k - 1]?=some (l[k - 1]'(by omega)):=FN (by omega);have h4:=h3 _ hk0 hl;by_cases ej:j=k - 1
  ·subst ej;rw [<- e];exact h4
  ·have h5:=HY.1 hs j (k - 1) (by omega) (by omega) (by omega);rw [e] at h5;unfold leE at h5;rw [F6] at h5;exact oK h4 h5
 rw [FO,H8];refine ⟨hs.sublist (List.take_sublist _ _),?_,?_⟩
 ·rw [Hz,List.pairwise_cons];refine ⟨fun y hy=>?_,hs.sublist (List.drop_sublist _ _)⟩;unfold leE;rw [vI (hup y hy)];rfl
 ·intro a ha b hb;rw [Hz] at hb;rcases FX.1 hb with rfl|hb
  ·unfold leE;rw [hdn a ha];rfl
  ·obtain ⟨i,hi,e1⟩:=GM.1 ha;obtain ⟨j,hj,e2⟩:=GM.1 hb;rw [HX] at e1;rw [List.getElem_drop] at e2;rw [GC] at hi;rw [HZ] at hj;rw [<- e1,<- e2];exact HY.1 hs i (k+j) (by omega) (by omega) (by omega)
def xa (m l:List (Ent α)):List (Ent α):=l.foldl (fun m x=>yV x m) m
theorem uu:∀ (l m:List (Ent α)),(xa m l).Perm (m++l)
 | [],m=>by simp [xa]
 | x::l,m=>by
   unfold xa;rw [G4];refine (uu l (yV x m)).trans ?_;refine ((yU x m).append_right l).trans ?_;rw [FO];rfl
theorem rK:∀ (l m:List (Ent α)),(m.Pairwise fun x y=>leE x y=true)->(xa m l).Pairwise fun x y=>leE x y=true
 | [],m,h=>h
 | x::l,m,h=>by
   unfold xa;rw [G4];exact rK l _ (vW h)
theorem TOk.ins {suf:List Rdn} {last:Int} {l:List (Ent α)} (h:TOk suf last l) (a:Ent α) (s:Int):xa [] (l.filter (dE a s))=scL l a s :=
 h.one (by simpa using uu (l.filter (dE a s)) []) (rK _ _ List.Pairwise.nil)
theorem TOk.srt {suf:List Rdn} {last:Int} {l:List (Ent α)} (h:TOk suf last l) (a:Ent α) (s:Int) {m:List (Ent α)} (hp:m.Perm (l.filter (dE a s))):m.mergeSort leE=scL l a s :=
 h.one ((G0 _ _).trans hp) (H0 (le:=leE) (fun a b c=>uo a b c) uq m)
theorem BP {suf:List Rdn} {last:Int} {l:List (Ent α)} (h:TOk suf last l) {a x:Ent α} (ha:a∈l) (hx:x∈l) (s:Int):dE a s x=(decide (0<=((pth x).length:Int) - (pth a).length) && decide ((pth x).take (pth a).length=pth a) && (decide (s=2) || decide (((pth x).length:Int) - (pth a).length=s))):=by
 have hl:∀ x:Ent α,(pth x).length=x.nm.length:=fun x=>by simp [pth,aZ]
 unfold dE;rw [hl,hl]
 congr 1
 rw [Bool.eq_iff_iff,FG,decide_eq_true_eq,decide_eq_true_eq,cc];constructor
 ·rintro ⟨_,_,y,e⟩;have hy:=congrArg List.length e;rw [FP,aZ,aZ] at hy;refine ⟨by omega,?_⟩;have:pth x=pth a++y.reverse:=by unfold pth;rw [<- e,List.reverse_append]
  rw [this,<- hl a,List.take_left'];rfl
 ·rintro ⟨h1,h2⟩;refine ⟨h.ok x hx,h.ok a ha,?_⟩;have h3:pth a <+: pth x:=by rw [<- h2];exact List.take_prefix _ _
  unfold pth at h3;exact List.reverse_prefix.1 h3
variable {α:Type}
def gq (n:List Rdn) (k:Nat) (tn:List Rdn):List Rdn:=n.take (n.length - k)++tn
def Bu (l:List (Ent α)) (id:Int) (tn:List Rdn):Bool:=match atE l tn with|some y=>decide (y.id≠id)|none=>false
def Cc (l:List (Ent α)) (dn tn:List Rdn):Bool:=l.any fun y=>dJ y.nm dn && !decide (OkD (gq y.nm dn.length tn))
def vO (suf:List Rdn) (l:List (Ent α)) (id:Int) (dn tn:List Rdn):Int :=
 if qI dn suf=true then 53 else if ¬ OkD tn\/tn=[] then 34 else if dJ tn.tail dn=true then 53 else if atE l tn.tail=none then 32 else if Bu l id tn=true then 68 else if Cc l dn tn=true then 34 else 0
def cW (suf:List Rdn) (l:List (Ent α)) (k:Int) (dn tn:List Rdn):Int :=
 if k<1\/4<k then 1
 else if k=1 then (if ¬ OkD dn then 34 else if atE l dn≠none then 68 else if qI dn suf=false/\(dn=[]\/atE l dn.tail=none) then 32 else if 4096<=l.length then 80 else 0)
 else match atE l dn with
  | none=>32
  | some x=>if k=2 then (if aG (b9 l) (NK x.nm)≠0 then 66 else 0) else if k=3 then 0 else vO suf l x.id dn tn
def l8 (l:List (Ent α)) (last:Int) (dn:List Rdn) (v:α):List (Ent α):=l++[⟨last+1,dn,v⟩]
def rS (l:List (Ent α)) (id:Int):List (Ent α):=l.filter fun x=>decide (x.id≠id)
def l6 (l:List (Ent α)) (id:Int) (v:α):List (Ent α):=l.map fun x=>if x.id=id then { x with av:=v } else x
def iI (l:List (Ent α)) (dn tn:List Rdn):List (Ent α):=l.map fun x=>if dJ x.nm dn=true then { x with nm:=gq x.nm dn.length tn } else x
def doT (suf:List Rdn) (l:List (Ent α)) (last:Int) (k:Int) (dn tn:List Rdn) (v:α):List (Ent α)×Int :=
 if cW suf l k dn tn≠0 then (l,last)
 else if k=1 then (l8 l last dn v,last+1)
 else if k=2 then (rS l (aH l dn),last)
 else if k=3 then (l6 l (aH l dn) v,last)
 else (l6 (iI l dn tn) (aH l dn) v,last)
theorem vN (l:List (Ent α)) (last:Int) (dn:List Rdn) (v:α):b9 (l8 l last dn v)=b9 l++[(last+1,NK dn)]:=by simp [b9,l8]
theorem vM (l:List (Ent α)) (id:Int):b9 (rS l id)=(b9 l).filter fun m=>decide (m.1≠id):=by
 unfold b9 rS;rw [List.filter_map];rfl
theorem sN (l:List (Ent α)) (id:Int) (v:α):b9 (l6 l id v)=b9 l:=by
 unfold b9 l6;rw [FR];refine Gp fun x _=>?_
 simp only [GR];split<;>rfl
theorem xX {n dn tn:List Rdn} (h:dJ n dn=true):NK (gq n dn.length tn)=ren (NK dn) (NK tn) (NK n):=by
 obtain ⟨_,_,hs⟩:=cc.1 h;unfold ren;rw [if_pos hs,aZ,aZ];unfold gq;rw [Ep]
 congr 1
 simp [NK,List.map_take]
theorem TOk.ndOf_ren {suf:List Rdn} {last:Int} {l:List (Ent α)} (h:TOk suf last l) {dn:List Rdn} (hd:OkD dn) (tn:List Rdn):b9 (iI l dn tn)=(b9 l).map fun m=>(m.1,ren (NK dn) (NK tn) m.2):=by
 unfold b9 iI;rw [FR,FR];refine Gp fun x hx=>?_
 simp only [GR];by_cases hu:dJ x.nm dn=true
 ·rw [if_pos hu,xX hu]
 ·rw [if_neg hu];rw [dw fun hs=>hu (cc.2 ⟨h.ok x hx,hd,hs⟩)]
theorem TOk.nil {suf:List Rdn} {last:Int} (h:OkD suf) (hs:suf≠[]):TOk (α:=α) suf last [] :=
 ⟨h,fun _ h=>absurd h Gw,jr.nil fun e=>hs (xD.1 e),fun _ h=>absurd h Gw⟩
theorem TOk.cha {suf:List Rdn} {last:Int} {l:List (Ent α)} (h:TOk suf last l) (id:Int) (v:α):TOk suf last (l6 l id v):=by
 refine ⟨h.sok,fun x hx=>?_,by rw [sN];exact h.inv,fun x hx=>?_⟩
 all_goals
  obtain ⟨y,hy,rfl⟩:=FF.1 hx;split
  ·first|exact h.ok y hy|exact h.ids y hy
  ·first|exact h.ok y hy|exact h.ids y hy
structure Fg (suf:List Rdn) (l:List (Ent α)) (dn:List Rdn):Prop where
 ok:OkD dn
 no:∀ x∈l,NK x.nm≠NK dn
 par:NK dn=NK suf\/∃ x∈l,NK x.nm=(NK dn).tail
theorem TOk.canA {suf:List Rdn} {last:Int} {l:List (Ent α)} (h:TOk suf last l) {dn tn:List Rdn} (ha:cW suf l 1 dn tn=0):Fg suf l dn/\l.length<4096:=by
 unfold cW at ha;rw [if_neg (by decide),if_pos rfl] at ha;by_cases h1:OkD dn;rotate_left
 ·rw [if_pos h1] at ha;exact absurd ha (by decide)
 rw [if_neg (by simpa using h1)] at ha;by_cases h2:atE l dn=none;rotate_left
 ·rw [if_pos h2] at ha;exact absurd ha (by decide)
 rw [if_neg (by simpa using h2)] at ha;by_cases h3:qI dn suf=false/\(dn=[]\/atE l dn.tail=none)
 ·rw [if_pos h3] at ha;exact absurd ha (by decide)
 rw [if_neg h3] at ha;by_cases h4:4096<=l.length
 ·rw [if_pos h4] at ha;exact absurd ha (by decide)
 refine ⟨⟨h1,k9.1 h2 h1,?_⟩,by omega⟩;cases hs:qI dn suf with
 | true=>exact .inl (vA.1 hs).2.2
 | false =>
   right;have h5:¬ (dn=[]\/atE l dn.tail=none):=fun e=>h3 ⟨hs,e⟩
   cases ht:atE l dn.tail with
   | none=>exact absurd (.inr ht) h5
   | some x =>
     obtain ⟨_,hx,e⟩:=bF ht;exact ⟨x,hx,by rw [e,qF]⟩
theorem TOk.add {suf:List Rdn} {last:Int} {l:List (Ent α)} (h:TOk suf last l) (hl:0<=last) {dn:List Rdn} (hc:Fg suf l dn) (v:α) :
  TOk suf (last+1) (l8 l last dn v)/\aG (b9 (l8 l last dn v)) (NK dn)=0/\∀ q,aG (b9 (l8 l last dn v)) q=aG (b9 l) q+if (NK dn).tail=q then 1 else 0:=by
 obtain ⟨h1,h2,h3⟩:=h.inv.added (id:=last+1) (p:=NK dn) (fun m hm=>by
  obtain ⟨x,hx,rfl⟩:=FF.1 hm;have:=h.ids x hx;simp only;omega) (fun m hm=>by
  obtain ⟨x,hx,rfl⟩:=FF.1 hm;exact hc.no x hx) (by
  rcases hc.par with e|⟨x,hx,e⟩
  ·exact .inl e
  ·exact .inr ⟨_,dC hx,e⟩)
 rw [vN];refine ⟨⟨h.sok,fun x hx=>?_,by rw [vN];exact h1,fun x hx=>?_⟩,h2,h3⟩
 ·rcases FE.1 hx with hx|hx
  ·exact h.ok x hx
  ·rw [FM.1 hx];exact hc.ok
 ·rcases FE.1 hx with hx|hx
  ·have:=h.ids x hx;omega
  ·rw [FM.1 hx];simp only;omega
theorem TOk.del {suf:List Rdn} {last:Int} {l:List (Ent α)} (h:TOk suf last l) {x:Ent α} (hx:x∈l) (h0:aG (b9 l) (NK x.nm)=0) :
  TOk suf last (rS l x.id)/\∀ q,aG (b9 (rS l x.id)) q+(if (NK x.nm).tail=q then 1 else 0)=aG (b9 l) q:=by
 obtain ⟨h1,h2⟩:=h.inv.deleted (dC hx) h0;rw [vM];refine ⟨⟨h.sok,fun y hy=>h.ok y (F9.1 hy).1,by rw [vM];exact h1,fun y hy=>h.ids y (F9.1 hy).1⟩,h2⟩
structure Eu (suf:List Rdn) (l:List (Ent α)) (x:Ent α) (dn tn:List Rdn):Prop where
 mem:x∈l
 ok:OkD dn
 nk:NK x.nm=NK dn
 tok:OkD tn
 tne:tn≠[]
 nos:NK dn≠NK suf
 nun:¬ NK dn <:+ (NK tn).tail
 par:∃ y∈l,NK y.nm=(NK tn).tail
 oth:∀ y∈l,NK y.nm=NK tn->y=x
 all:∀ y∈l,dJ y.nm dn=true->OkD (gq y.nm dn.length tn)
theorem TOk.canM {suf:List Rdn} {last:Int} {l:List (Ent α)} (h:TOk suf last l) {x:Ent α} {dn tn:List Rdn} (hx:atE l dn=some x) (ha:vO suf l x.id dn tn=0):Eu suf l x dn tn:=by
 obtain ⟨hd,hm,e⟩:=bF hx;unfold vO at ha;by_cases h1:qI dn suf=true
 ·rw [if_pos h1] at ha;exact absurd ha (by decide)
 rw [if_neg h1] at ha;by_cases h2:¬ OkD tn\/tn=[]
 ·rw [if_pos h2] at ha;exact absurd ha (by decide)
 rw [if_neg h2] at ha;have ht:OkD tn:=by
  by_cases c:OkD tn
  ·exact c
  ·exact absurd (.inl c) h2
 by_cases h3:dJ tn.tail dn=true
 ·rw [if_pos h3] at ha;exact absurd ha (by decide)
 rw [if_neg h3] at ha;by_cases h4:atE l tn.tail=none
 ·rw [if_pos h4] at ha;exact absurd ha (by decide)
 rw [if_neg h4] at ha;by_cases h5:Bu l x.id tn=true
 ·rw [if_pos h5] at ha;exact absurd ha (by decide)
 rw [if_neg h5] at ha;by_cases h6:Cc l dn tn=true
 ·rw [if_pos h6] at ha;exact absurd ha (by decide)
 refine ⟨hm,hd,e,ht,fun c=>h2 (.inr c),fun c=>h1 (vA.2 ⟨hd,h.sok,c⟩),fun c=>h3 (cc.2 ⟨ht.tail,hd,by rw [qF];exact c⟩),?_,fun y hy c=>?_,fun y hy hu=>?_⟩
 ·cases h7:atE l tn.tail with
  | none=>exact absurd h7 h4
  | some y =>
    obtain ⟨_,hy,e2⟩:=bF h7;exact ⟨y,hy,by rw [e2,qF]⟩
 ·have:=h.at hy ht c.symm;unfold Bu at h5;rw [this] at h5;simp only [decide_eq_true_eq,ne_eq,H1] at h5;exact h.byI hy hm h5
 ·have h7:=HD.1 (by simpa [Cc] using h6:(l.any fun y=>dJ y.nm dn && !decide (OkD (gq y.nm dn.length tn)))=false) y hy;rw [hu] at h7;simpa using h7
theorem TOk.mov {suf:List Rdn} {last:Int} {l:List (Ent α)} (h:TOk suf last l) {x:Ent α} {dn tn:List Rdn} (hc:Eu suf l x dn tn) :
  TOk suf last (iI l dn tn)/\∀ y∈l,(aG (b9 (iI l dn tn)) (ren (NK dn) (NK tn) (NK y.nm)):Int)=aG (b9 l) (NK y.nm)+(if NK y.nm=(NK tn).tail then 1 else 0) - (if NK y.nm=(NK dn).tail then 1 else 0):=by
 have hm:(x.id,NK dn)∈b9 l:=by rw [<- hc.nk];exact dC hc.mem
 obtain ⟨h1,h2⟩:=h.inv.moved hm hc.nos (fun e=>hc.tne (xD.1 e)) hc.nun (by
  obtain ⟨y,hy,e⟩:=hc.par;exact ⟨_,dC hy,e⟩) (fun m hm e=>by
  obtain ⟨y,hy,rfl⟩:=FF.1 hm;rw [hc.oth y hy e])
 rw [h.ndOf_ren hc.ok];refine ⟨⟨h.sok,fun y hy=>?_,by rw [h.ndOf_ren hc.ok];exact h1,fun y hy=>?_⟩,fun y hy=>h2 _ (dC hy)⟩
 ·obtain ⟨z,hz,rfl⟩:=FF.1 hy;split
  ·rename_i hu;exact hc.all z hz hu
  ·exact h.ok z hz
 ·obtain ⟨z,hz,rfl⟩:=FF.1 hy;split
  ·exact h.ids z hz
  ·exact h.ids z hz
theorem TOk.done {suf:List Rdn} {last:Int} {l:List (Ent α)} (h:TOk suf last l) (hl:0<=last) (k:Int) (dn tn:List Rdn) (v:α):TOk suf (doT suf l last k dn tn v).2 (doT suf l last k dn tn v).1/\last<=(doT suf l last k dn tn v).2/\(doT suf l last k dn tn v).2<=last+1/\(doT suf l last k dn tn v).1.length<=l.length+1:=by
 unfold doT;by_cases h0:cW suf l k dn tn=0;rotate_left
 ·rw [if_pos h0];exact ⟨h,HH _,by omega,Nat.le_succ _⟩
 rw [if_neg (by simpa using h0)];by_cases h1:k=1
 ·subst h1;rw [if_pos rfl];exact ⟨(h.add hl (h.canA h0).1 v).1,by simp only;omega,by simp only;omega,by simp [l8]⟩
 rw [if_neg h1];unfold cW at h0;by_cases hk:k<1\/4<k
 ·rw [if_pos hk] at h0;exact absurd h0 (by decide)
 rw [if_neg hk,if_neg h1] at h0;cases hx:atE l dn with
 | none=>rw [hx] at h0;simp at h0
 | some x =>
   rw [hx] at h0;simp only at h0;have hf:aH l dn=x.id:=by unfold aH;rw [hx]
   rw [hf];by_cases h2:k=2
   ·rw [if_pos h2] at h0 ⊢;by_cases h3:aG (b9 l) (NK x.nm)=0
    ·exact ⟨(h.del (bF hx).2.1 h3).1,HH _,by simp only;omega,Nat.le_succ_of_le (Hr _ _)⟩
    ·rw [if_pos h3] at h0;exact absurd h0 (by decide)
   rw [if_neg h2] at h0 ⊢;by_cases h3:k=3
   ·rw [if_pos h3];exact ⟨h.cha _ _,HH _,by simp only;omega,by simp [l6]⟩
   rw [if_neg h3] at h0 ⊢;exact ⟨(h.mov (h.canM hx h0)).1.cha _ _,HH _,by simp only;omega,by simp [l6,iI]⟩
variable {L:List Blk} {K:Fw}
set_option maxHeartbeats 8000000
set_option maxRecDepth 100000
def dnM (d:List Rdn):Prop:=d.length<=1100000/\∀ r∈d,r.length<=1100000/\∀ a∈r,(a.1.length:Int)<=140737488351232
theorem dnM.b {d:List Rdn} (h:dnM d):dnB d:=⟨h.1,fun r hr=>(h.2 r hr).1⟩
theorem vL {d:List Rdn} (h:OkD d):d.length<=1000/\∀ r∈d,r.length<=1000/\∀ a∈r,a.1.length<=10000/\a.2.length<=10000:=by
 obtain ⟨q1,q2⟩:=uM h;exact ⟨by omega,fun r hr=>⟨by have:=(q2 r hr).1;omega,fun a ha=>⟨by have:=((q2 r hr).2 a ha).1;omega,by have:=((q2 r hr).2 a ha).2;omega⟩⟩⟩
theorem OkD.m {d:List Rdn} (h:OkD d):dnM d:=⟨by have:=(vL h).1;omega,fun r hr=>⟨by have:=((vL h).2 r hr).1;omega,fun a ha=>by have:=(((vL h).2 r hr).2 a ha).1;omega⟩⟩
theorem CH {d:List Rdn} {cap:Option Nat} (hd:OkD d) (h:K (.str (aE true d)) L) :
  Fv 29 [.sl (d.map aI) d.length cap,.bool true] L K:=by
 obtain ⟨q1,q2⟩:=uM hd;have hrl:∀ r∈d,(bG true r).length<=200000:=fun r hr=>pg (q2 r hr).1 (fun a ha=>((q2 r hr).2 a ha).1) (fun a ha=>((q2 r hr).2 a ha).2)
 have htl:=o9 (by omega) hrl;exact xP (vL hd).1 (vL hd).2 (fun r hr=>by have:=hrl r hr;omega) (by omega) h
theorem xM {d b:List Rdn} {cap cap':Option Nat} (hd:dnB d) (hb:dnB b) (h:K (.bool (dJ d b)) L) :
  Fv 35 [.sl (d.map aI) d.length cap,.sl (b.map aI) b.length cap'] L K:=by
 have e0:dJ d b=(decide (OkD d) && decide (OkD b) && decide (b.length<=d.length) && decide (aE true (d.drop (d.length - b.length))=aE true b)):=rfl;obtain ⟨⟨ps,pe⟩,hp⟩:∃ q,prS d=q:=⟨_,rfl⟩;obtain ⟨⟨ns,ne⟩,hn⟩:∃ q,uS b=q:=⟨_,rfl⟩;have kk1:Hid (Ctr Try.prog 15 [.sl (d.map aI) d.length cap] (.tup [.str ps,.int .i64 pe])):=@hid _ (by intro L K q;exact lm hd.1 hd.2 (by rw [hp];exact q));have kk2:Hid (Ctr Try.prog 19 [.sl (b.map aI) b.length cap'] (.tup [.str ns,.int .i64 ne])):=@hid _ (by intro L K q;exact qM hb.1 hb.2 (by rw [hn];exact q));have p1:OkD d↔pe=0:=by unfold OkD;rw [hp]
 by_cases h1:pe=0;rotate_left
 ·rw [e0,decide_eq_false (fun c=>h1 (p1.1 c))] at h;simp only [Hp] at h;replace h:=hid h;clear hp hn e0 p1 hd hb;refine Fu fU ?_;exact aq h.out
 have hod:OkD d:=p1.2 h1;by_cases h2:ne=0;rotate_left
 ·rw [e0,decide_eq_false (p:=OkD b) (fun c=>h2 (by have:=iw c;rw [hn] at this;injection this))] at h;simp only [Hp,HT] at h;replace h:=hid h;subst h1;clear hp hn e0 p1 hd hb hod;refine Fu fU ?_;exact aq h.out
 have hob:OkD b:=by
  by_cases c:OkD b
  ·exact c
  ·exact absurd (by rw [hn];exact h2) (uR c)
 have hns:ns=aE true b:=by have:=iw hob;rw [hn] at this;injection this
 rw [decide_eq_true hod,decide_eq_true hob] at e0;simp only [GY] at e0;subst h1 h2;by_cases h3:b.length<=d.length;rotate_left
 ·rw [e0,decide_eq_false h3] at h;simp only [Hp] at h;replace h:=hid h;have g1:(d.length:Int)<(b.length:Int):=by omega
  clear hp hn e0 p1 hd hb hod hob hns;refine Fu fU ?_;exact aq h.out
 rw [e0,decide_eq_true h3,<- hns] at h;simp only [GY] at h;obtain ⟨k,hk⟩:=Fq (d.length - b.length);rw [hk] at h;have kk3:Hid (∀ {c:Option Nat} {L:List Blk} {K:Fw},K (.str (aE true (d.drop k))) L->Fv 29 [.sl (List.take (d.length - k) (List.drop k (d.map aI))) (d.length - k) c,.bool true] L K):=@hid _ (by
  intro c L K q;have:=CH (cap:=c) (hod.drop k) q;rw [HZ] at this;rw [<- List.map_drop,Gd (by simp)];exact this)
 have g1:¬ (d.length:Int)<(b.length:Int):=by omega
 have hl:d.length<=32:=hod.len;have g2:IntKind.i64.wrap ((d.length:Int) - (b.length:Int))=(k:Int):=by rw [aw (by omega) (by omega)];omega
 have g3:(k:Int)<=(d.length:Int):=by omega
 replace h:=hid h;clear hp hn e0 p1 hd hb hod hob hns hk h3 hl;refine Fu fU ?_;exact aq h.out
abbrev aA:=Ent (List Atr)
instance:Inhabited aA:=⟨⟨0,[],[]⟩⟩
def atR (v:List Atr):AV:=.sl (eW v) v.length none
def plI (o:Option Nat):Int:=match o with|some i=>(i:Int)|none=>-1
def byI (l:List aA) (id:Int):Int:=plI (l.findIdx? fun x=>decide (x.id=id))
abbrev TKy:=List UInt8×Int×Nat
def kyA (r:TKy):AV×AV×Nat:=(.str r.1,.int .i64 r.2.1,r.2.2)
def dp (nb bn:Int->Nat) (x:aA):AV×AV×Nat:=(.int .i64 x.id,.ptr (nb x.id) 0,bn x.id)
def jo (l:List aA) (x:aA):List AV:=[dnA x.nm,.sl (am (pth x)) x.nm.length none,atR x.av,.int .i64 (aG (b9 l) (NK x.nm):Nat)]
structure a6 (L:List Blk) (iv mn mi:Nat) (nb bn:Int->Nat) (ck ci:Nat) (rs:List TKy) (suf:List Rdn) (last:Int) (l:List aA):Prop where
 v:L[iv]?=some (.cells [dnA suf,.lmap mn,.lmap mi,.int .i64 last])
 n:L[mn]?=some (.map (l.map (dp nb bn)) ck)
 i:L[mi]?=some (.map (rs.map kyA) ci)
 nd:∀ x∈l,L[nb x.id]?=some (.cells (jo l x))
 keys:(rs.map (·.1)).Nodup
 mem:∀ k id,(∃ b,(k,id,b)∈rs)↔∃ x∈l,aE true x.nm=k/\x.id=id
 bnd:(l.map fun x=>bn x.id).Nodup
 blt:∀ x∈l,bn x.id<ck
theorem a6.app {L:List Blk} {iv mn mi:Nat} {nb bn:Int->Nat} {ck ci:Nat} {rs:List TKy} {suf:List Rdn} {last:Int} {l:List aA} (h:a6 L iv mn mi nb bn ck ci rs suf last l) (X:List Blk):a6 (L++X) iv mn mi nb bn ck ci rs suf last l:=by
 have key:∀ {i:Nat} {b:Blk},L[i]?=some b->(L++X)[i]?=some b:=fun {i b} e=>by
  rw [FC (Fx.1 e).1];exact e
 exact ⟨key h.v,key h.n,key h.i,fun x hx=>key (h.nd x hx),h.keys,h.mem,h.bnd,h.blt⟩
theorem kW:∀ (rs:List TKy) (k:List UInt8) (j:Nat),bt (.str k) (rs.map kyA) j=some ((rs.findIdx? fun r=>decide (r.1=k)).map fun n=>(j+n,.int .i64 (rs.getD n default).2.1))
 | [],k,j=>rfl
 | r::rs,k,j=>by
   by_cases h:k=r.1
   ·subst h;simp [bt,kyA,l5,G2]
   ·have h':¬ r.1=k:=fun e=>h e.symm
    simp only [FQ,kyA,bt,l5,decide_eq_false h,G2,decide_eq_false h',FI,if_false];have ih:=kW rs k (j+1);rw [ih];cases rs.findIdx? (fun r=>decide (r.1=k)) with
    | none=>rfl
    | some n=>simp only [FK];rw [show j+1+n=j+(n+1) by omega];rfl
theorem kV (nb bn:Int->Nat):∀ (l:List aA) (id:Int) (j:Nat),bt (.int .i64 id) (l.map (dp nb bn)) j=some ((l.findIdx? fun x=>decide (x.id=id)).map fun n=>(j+n,.ptr (nb id) 0))
 | [],id,j=>rfl
 | x::l,id,j=>by
   by_cases h:id=x.id
   ·subst h;simp [bt,dp,l5,G2]
   ·have h':¬ x.id=id:=fun e=>h e.symm
    simp only [FQ,dp,bt,l5,if_true,decide_eq_false h,G2,decide_eq_false h',FI,if_false];have ih:=kV nb bn l id (j+1);rw [ih];cases l.findIdx? (fun x=>decide (x.id=id)) with
    | none=>rfl
    | some n=>simp only [FK];rw [show j+1+n=j+(n+1) by omega]
theorem dO {β:Type} {f:β->Bool} {l:List β} [Inhabited β]:(l.findIdx? f=none/\l.find? f=none)\/∃ n,l.findIdx? f=some n/\n<l.length/\l.find? f=some (l.getD n default):=by
 induction l with
 | nil=>exact .inl ⟨rfl,rfl⟩
 | cons x l ih =>
   by_cases h:f x=true
   ·exact .inr ⟨0,by simp [G2,h],by simp,by simp [Hy,h]⟩
   ·rcases ih with ⟨h1,h2⟩|⟨n,h1,h2,h3⟩
    ·exact .inl ⟨by simp [G2,h,h1],by simp [Hy,h,h2]⟩
    ·exact .inr ⟨n+1,by simp [G2,h,h1],by simpa using h2,by simp [Hy,h,h3]⟩
theorem a6.look {L:List Blk} {iv mn mi:Nat} {nb bn:Int->Nat} {ck ci:Nat} {rs:List TKy} {suf:List Rdn} {last:Int} {l:List aA} (h:a6 L iv mn mi nb bn ck ci rs suf last l) (ht:TOk suf last l) {d:List Rdn} (hd:OkD d) :
  (aH l d=0/\atE l d=none/\bt (.str (aE true d)) (rs.map kyA) 0=some none)\/∃ j,bt (.str (aE true d)) (rs.map kyA) 0=some (some (j,.int .i64 (aH l d))):=by
 rw [kW];rcases dO (f:=fun r:TKy=>decide (r.1=aE true d)) (l:=rs) with ⟨h1,h2⟩|⟨n,h1,hn,h2⟩
 ·left;have hno:atE l d=none:=k9.2 fun _ x hx e=>by
   obtain ⟨b,hb⟩:=(h.mem (aE true x.nm) x.id).2 ⟨x,hx,rfl,rfl⟩;have:=GS.1 h2 _ hb;simp only [decide_eq_true_eq] at this;exact this ((fP (ht.ok x hx) hd).2 e)
  exact ⟨ht.find0.2 hno,hno,by rw [h1];rfl⟩
 ·right;refine ⟨n,?_⟩;obtain ⟨⟨k,id,b⟩,hr⟩:∃ r,rs.getD n default=r:=⟨_,rfl⟩;have hm:=GU h2;have hk:k=aE true d:=by have:=GT h2;rw [hr] at this;simpa using this
  rw [hr] at hm;obtain ⟨x,hx,e1,e2⟩:=(h.mem k id).1 ⟨b,hm⟩;have:atE l d=some x:=ht.at hx hd ((fP hd (ht.ok x hx)).1 (by rw [<- hk,e1]));rw [h1];simp only [FK,hr,Hl,aH,this,e2]
theorem mX {d:List Rdn} {cap:Option Nat} (hd:dnB d) {L:List Blk} {iv mn mi:Nat} {nb bn:Int->Nat} {ck ci:Nat} {rs:List TKy} {suf:List Rdn} {last:Int} {l:List aA} (ht:TOk suf last l) (hc:a6 L iv mn mi nb bn ck ci rs suf last l) {K:Fw} (h:K (.int .i64 (aH l d)) L) :
  Fv 8 [.ptr iv 0,.sl (d.map aI) d.length cap] L K:=by
 replace h:=hid h;obtain ⟨⟨s,e⟩,hse⟩:∃ q,uS d=q:=⟨_,rfl⟩;have kk1:Hid (Ctr Try.prog 19 [.sl (d.map aI) d.length cap] (.tup [.str s,.int .i64 e])):=@hid _ (by intro L K q;exact qM hd.1 hd.2 (by rw [hse];exact q));have hv:=hc.v;have hi:=hc.i;by_cases he:e=0
 ·subst he;have hod:OkD d:=by
   by_cases c:OkD d
   ·exact c
   ·exact absurd (by rw [hse]) (uR c)
  have hs:s=aE true d:=by have:=iw hod;rw [hse] at this;injection this
  rcases hc.look ht hod with ⟨h0,_,h1⟩|⟨j,h1⟩
  ·rw [<- hs] at h1;rw [h0] at h;have hkf:aN .str (.str s)=true:=rfl;clear hse hc hs;refine Fu a8 ?_;exact aq h.out
  ·rw [<- hs] at h1;have hkf:aN .str (.str s)=true:=rfl;obtain ⟨z,hz⟩:=Fq (aH l d);rw [hz] at h h1;clear hse hc hs hz;refine Fu a8 ?_;exact aq h.out
 ·have h0:aH l d=0:=by
   refine ht.find0.2 (k9.2 fun c=>?_);have:=iw c;rw [hse] at this;exact absurd (by injection this) he
  rw [h0] at h;clear hse hc;refine Fu a8 ?_;exact aq h.out
theorem a6.node {L:List Blk} {iv mn mi:Nat} {nb bn:Int->Nat} {ck ci:Nat} {rs:List TKy} {suf:List Rdn} {last:Int} {l:List aA} (h:a6 L iv mn mi nb bn ck ci rs suf last l) (id:Int) :
  (qz l id=none/\bt (.int .i64 id) (l.map (dp nb bn)) 0=some none)\/∃ x n,qz l id=some x/\x∈l/\x.id=id/\bt (.int .i64 id) (l.map (dp nb bn)) 0=some (some (n,.ptr (nb id) 0))/\L[nb id]?=some (.cells (jo l x)):=by
 rw [kV];unfold qz;rcases dO (f:=fun x:aA=>decide (x.id=id)) (l:=l) with ⟨h1,h2⟩|⟨n,h1,h2,h3⟩
 ·exact .inl ⟨h2,by rw [h1];rfl⟩
 ·right;have hm:=GU h3;have hi:(l.getD n default).id=id:=by have:=GT h3;simpa using this
  refine ⟨_,n,h3,hm,hi,by rw [h1];simp,?_⟩;have:=h.nd _ hm
  rwa [hi] at this
theorem xK {d b:List Rdn} {cap cap':Option Nat} (hd:dnB d) (hb:dnB b) {v:Nat} (h:K (.bool (qI d b)) L) :
  Fv 24 [.ptr v 0,.sl (d.map aI) d.length cap,.sl (b.map aI) b.length cap'] L K:=by
 have kk1:Hid (Ctr Try.prog 35 [.sl (d.map aI) d.length cap,.sl (b.map aI) b.length cap'] (.bool (dJ d b))):=@hid _ (by intro L K q;exact xM hd hb q);unfold qI at h;obtain ⟨u,hu⟩:=Fq (dJ d b);rw [hu] at h kk1;by_cases c:d.length=b.length
 ·have g:(d.length:Int)=(b.length:Int):=by omega
  rw [decide_eq_true c,GY] at h;replace h:=hid h;clear hu hd hb c;refine Fu iu ?_;exact aq h.out
 ·have g:¬ (d.length:Int)=(b.length:Int):=by omega
  rw [decide_eq_false c,Hp] at h;replace h:=hid h;clear hu hd hb c;refine Fu iu ?_;exact aq h.out
theorem xO {d:List Rdn} {cap:Option Nat} (hd:dnB d) {L:List Blk} {K:Fw}
  (h:¬ OkD d->K (.tup [.nilptr,.int .i64 (prS d).2]) L) (h2:d=[]->K (.tup [.nilptr,.int .i64 2]) L) (h3:OkD d->d≠[]->K (.tup [.ptr (L.length+3) 0,.int .i64 0]) (L++[.map [] 0,.map [] 0,.cells [dnA d,.lmap L.length,.lmap (L.length+1),.int .i64 0],.cells [.ptr (L.length+2) 0]])) :
  Fv 4 [.sl (d.map aI) d.length cap] L K:=by
 obtain ⟨⟨s,e⟩,hse⟩:∃ q,prS d=q:=⟨_,rfl⟩;have kk1:Hid (Ctr Try.prog 15 [.sl (d.map aI) d.length cap] (.tup [.str s,.int .i64 e])):=@hid _ (by intro L K q;exact lm hd.1 hd.2 (by rw [hse];exact q));have kk2:Hid (∀ {c:Option Nat} {L:List Blk} {K:Fw},K (dnA d) L->Fv 16 [.sl (d.map aI) d.length cap,.sl [] 0 c] L K):=@hid _ (by intro c L K q;exact BG hd.1 hd.2 q);have p1:OkD d↔e=0:=by unfold OkD;rw [hse]
 rw [hse] at h;by_cases he:e=0;rotate_left
 ·replace h:=hid (h fun c=>he (p1.1 c));clear hse p1 h2 h3 hd;refine Fu kp ?_;exact aq h.out
 subst he;by_cases hl:d.length=0
 ·have hnil:=F8.1 hl;replace h:=hid (h2 hnil);subst hnil;clear hse p1 h2 h3 hd hl;refine Fu kp ?_;exact aq h.out
 ·have g:¬ (d.length:Int)=0:=by omega
  replace h:=hid (h3 (p1.2 rfl) fun c=>hl (by rw [c];rfl));clear hse p1 h2 h3 hd;refine Fu kp ?_;exact aq h.out
end Go.Proofs.Ytobihfefmlgaoaa.Av
