/- Joined texts of the walk, made small by a program. -/
import Derived.Test.YtdhjplmjpjfjnaaGreatHP1
import Derived.Test.YtdhjplmjpjfjnaaGreatHT1
import Derived.Sort.Statements
set_option linter.unusedSimpArgs false
set_option linter.unusedVariables false
namespace Go.Proofs.YtdhjplmjpjfjnaaGreat.Av
open Go
abbrev Pth:=List (List UInt8)
abbrev INm:=Int×Pth
def aO (l:List INm) (p:Pth):Nat:=(l.filter fun m=>decide (m.2≠[]∧m.2.tail=p)).length
structure mL (suf:Pth) (l:List INm):Prop where
 sne:suf≠[]
 nd:(l.map (·.2)).Nodup
 ids:(l.map (·.1)).Nodup
 un:∀ m∈l,suf <:+ m.2
 par:∀ m∈l,m.2=suf∨∃ k∈l,k.2=m.2.tail
theorem mL.nil {suf:Pth} (h:suf≠[]):mL suf []:=⟨h,by simp,by simp,fun _ h=>absurd h List.not_mem_nil,fun _ h=>absurd h List.not_mem_nil⟩
theorem dR {α β:Type} {f:α→β}:∀ {l:List α},(l.map f).Nodup→∀ {a b:α},a∈l→b∈l→f a=f b→a=b
 | [],_,a,_,h,_,_=>by cases h
 | x::l,h,a,b,ha,hb,e=>by
   rw [List.map_cons,List.nodup_cons] at h
   rcases List.mem_cons.1 ha with ea|ha'<;>rcases List.mem_cons.1 hb with eb|hb'
   · rw [ea,eb]
   · exact (h.1 (List.mem_map.2 ⟨b,hb',by rw [← e,ea]⟩)).elim
   · exact (h.1 (List.mem_map.2 ⟨a,ha',by rw [e,eb]⟩)).elim
   · exact dR h.2 ha' hb' e
theorem p0 {α β:Type} {f:α→β}:∀ {l:List α},(l.map f).Nodup→l.Nodup
 | [],_=>List.nodup_nil
 | x::l,h=>by
   rw [List.map_cons,List.nodup_cons] at h
   exact List.nodup_cons.2 ⟨fun hm=>h.1 (List.mem_map.2 ⟨x,hm,rfl⟩),p0 h.2⟩
theorem mL.byP {suf:Pth} {l:List INm} (h:mL suf l) {a b:INm} (ha:a∈l) (hb:b∈l) (e:a.2=b.2):a=b:=dR h.nd ha hb e
theorem mL.byI {suf:Pth} {l:List INm} (h:mL suf l) {a b:INm} (ha:a∈l) (hb:b∈l) (e:a.1=b.1):a=b:=dR h.ids ha hb e
theorem mL.ne {suf:Pth} {l:List INm} (h:mL suf l) {m:INm} (hm:m∈l):m.2≠[]:=fun e=>h.sne (by
 have:=h.un m hm
 rw [e] at this
 exact List.suffix_nil.1 this)
theorem mL.anc {suf:Pth} {l:List INm} (h:mL suf l):∀ (n:Nat) (k:INm) (y x:Pth),y.length=n→k∈l→k.2=y++x→suf <:+ x→∃ m∈l,m.2=x
 | 0,k,y,x,hy,hk,e,_=>⟨k,hk,by rw [e,List.eq_nil_of_length_eq_zero hy];rfl⟩
 | n+1,k,y,x,hy,hk,e,hs=>by
   obtain ⟨a,y',rfl⟩:∃ a y',y=a::y':=by
     cases y with
     | nil=>simp at hy
     | cons a y'=>exact ⟨a,y',rfl⟩
   rcases h.par k hk with e2|⟨p,hp,e2⟩
   · have h1:=hs.length_le
     rw [← e2,e] at h1
     simp at h1;omega
   · rw [e] at e2
     exact h.anc n p y' x (by simpa using hy) hp e2 hs
theorem mL.ancS {suf:Pth} {l:List INm} (h:mL suf l) {k:INm} {x:Pth} (hk:k∈l) (hx:x <:+ k.2) (hs:suf <:+ x):∃ m∈l,m.2=x:=by
 obtain ⟨y,e⟩:=hx
 exact h.anc y.length k y x rfl hk e.symm hs
theorem mL.added {suf:Pth} {l:List INm} (h:mL suf l) {id:Int} {p:Pth} (hid:∀ m∈l,m.1≠id) (hno:∀ m∈l,m.2≠p) (hp:p=suf∨∃ k∈l,k.2=p.tail) :
   mL suf (l++[(id,p)])∧aO (l++[(id,p)]) p=0∧∀ q,aO (l++[(id,p)]) q=aO l q+if p.tail=q then 1 else 0:=by
 have hsp:suf <:+ p:=by
   rcases hp with rfl|⟨k,hk,e⟩
   · exact List.suffix_refl _
   · have:=h.un k hk
     rw [e] at this
     exact this.trans (List.tail_suffix p)
 have hpne:p≠[]:=fun e=>h.sne (by rw [e] at hsp;exact List.suffix_nil.1 hsp)
 have hk:∀ q,aO (l++[(id,p)]) q=aO l q+if p.tail=q then 1 else 0:=fun q=>by
   unfold aO
   rw [List.filter_append,List.length_append]
   congr 1
   by_cases e:p.tail=q
   · simp [e,hpne]
   · simp [e]
 refine ⟨⟨h.sne,?_,?_,?_,?_⟩,?_,hk⟩
 · rw [List.map_append,List.nodup_append]
   refine ⟨h.nd,by simp,?_⟩
   intro a ha b hb e
   obtain ⟨m,hm,rfl⟩:=List.mem_map.1 ha
   simp only [List.map_cons,List.map_nil,List.mem_singleton] at hb
   exact hno m hm (e.trans hb)
 · rw [List.map_append,List.nodup_append]
   refine ⟨h.ids,by simp,?_⟩
   intro a ha b hb e
   obtain ⟨m,hm,rfl⟩:=List.mem_map.1 ha
   simp only [List.map_cons,List.map_nil,List.mem_singleton] at hb
   exact hid m hm (e.trans hb)
 · intro m hm
   rcases List.mem_append.1 hm with hm|hm
   · exact h.un m hm
   · rw [List.mem_singleton.1 hm];exact hsp
 · intro m hm
   rcases List.mem_append.1 hm with hm|hm
   · rcases h.par m hm with e|⟨k,hk,e⟩
     · exact .inl e
     · exact .inr ⟨k,List.mem_append_left _ hk,e⟩
   · rw [List.mem_singleton.1 hm]
     rcases hp with e|⟨k,hk,e⟩
     · exact .inl e
     · exact .inr ⟨k,List.mem_append_left _ hk,e⟩
 · rw [hk p]
   have h0:¬ p.tail=p:=fun e=>by
     have:=congrArg List.length e
     rw [List.length_tail] at this
     have:=List.length_pos_iff.2 hpne
     omega
   rw [if_neg h0]
   have:aO l p=0:=by
     unfold aO
     rw [List.length_eq_zero_iff,List.filter_eq_nil_iff]
     intro m hm hc
     simp only [decide_eq_true_eq] at hc
     rcases h.par m hm with e|⟨k,hk,e⟩
     · have:=hsp.length_le
       rw [← hc.2,e,List.length_tail] at this
       have:=List.length_pos_iff.2 h.sne
       omega
     · exact hno k hk (e.trans hc.2)
   rw [this]
theorem mL.deleted {suf:Pth} {l:List INm} (h:mL suf l) {id:Int} {p:Pth} (hm:(id,p)∈l) (h0:aO l p=0) :
   mL suf (l.filter fun m=>decide (m.1≠id))∧∀ q,aO (l.filter fun m=>decide (m.1≠id)) q+(if p.tail=q then 1 else 0)=aO l q:=by
 have sub:∀ m∈l.filter (fun m=>decide (m.1≠id)),m∈l∧m.1≠id:=fun m hm=>by simpa using List.mem_filter.1 hm
 refine ⟨⟨h.sne,(List.filter_sublist.map _).nodup h.nd,(List.filter_sublist.map _).nodup h.ids,fun m hm=>h.un m (sub m hm).1,fun m hm'=>?_⟩,fun q=>?_⟩
 · obtain ⟨hml,hmi⟩:=sub m hm'
   rcases h.par m hml with e|⟨k,hk,e⟩
   · exact .inl e
   · refine .inr ⟨k,?_,e⟩
     simp only [List.mem_filter,decide_eq_true_eq]
     refine ⟨hk,fun e2=>?_⟩
     have:k=(id,p):=h.byI hk hm e2
     subst this
     unfold aO at h0
     rw [List.length_eq_zero_iff,List.filter_eq_nil_iff] at h0
     exact h0 m hml (by simp only [decide_eq_true_eq];exact ⟨h.ne hml,e.symm⟩)
 · have key:∀ l:List INm,(l.map (·.1)).Nodup→(id,p)∈l→p≠[]→aO (l.filter fun m=>decide (m.1≠id)) q+(if p.tail=q then 1 else 0)=aO l q:=by
     intro l
     induction l with
     | nil=>intro _ h;cases h
     | cons a l ih =>
       intro hn hm hpne
       rw [List.map_cons,List.nodup_cons] at hn
       rcases List.mem_cons.1 hm with rfl|hm
       · have:l.filter (fun m=>decide (m.1≠id))=l:=List.filter_eq_self.2 fun m hm=>by
           simp only [decide_eq_true_eq]
           intro e
           exact hn.1 (List.mem_map.2 ⟨m,hm,e⟩)
         rw [List.filter_cons_of_neg (by simp),this]
         unfold aO
         by_cases e:p.tail=q
         · rw [List.filter_cons_of_pos (by simp [hpne,e]),if_pos e];rfl
         · rw [List.filter_cons_of_neg (by simp [e]),if_neg e];rfl
       · have ha:a.1≠id:=fun e=>hn.1 (by rw [e];exact List.mem_map_of_mem (f:=(·.1)) hm)
         rw [List.filter_cons_of_pos (by simpa using ha)]
         have:=ih hn.2 hm hpne
         unfold aO at this ⊢
         by_cases e:a.2≠[]∧a.2.tail=q
         · rw [List.filter_cons_of_pos (by simpa using e),List.filter_cons_of_pos (by simpa using e)]
           simp only [List.length_cons]
           omega
         · rw [List.filter_cons_of_neg (by simpa using e),List.filter_cons_of_neg (by simpa using e)]
           exact this
   exact key l h.ids hm (h.ne hm)
def ren (p q x:Pth):Pth:=if p <:+ x then x.take (x.length - p.length)++q else x
theorem eW (p q y:Pth):ren p q (y++p)=y++q:=by
 unfold ren
 rw [if_pos (List.suffix_append ..)]
 simp
theorem eI {p q x:Pth} (h:¬ p <:+ x):ren p q x=x:=by unfold ren;rw [if_neg h]
theorem DX {α:Type} {f g:α→Bool} {a:α}:∀ {l:List α},l.Nodup→a∈l→(∀ k∈l,k≠a→f k=g k)→(l.filter f).length+(if g a=true then 1 else 0)=(l.filter g).length+(if f a=true then 1 else 0)
 | [],_,h,_=>by cases h
 | x::l,hn,hm,he=>by
   obtain ⟨h1,h2⟩:=List.nodup_cons.1 hn
   by_cases hx:x=a
   · subst hx
     have:l.filter f=l.filter g:=List.filter_congr fun k hk=>he k (by simp [hk]) fun e=>h1 (e ▸ hk)
     simp only [List.filter_cons,this]
     cases f x<;>cases g x<;>simp
   · have hm':a∈l:=by
       rcases List.mem_cons.1 hm with e|e
       · exact absurd e.symm hx
       · exact e
     have ih:=DX h2 hm' fun k hk=>he k (by simp [hk])
     have e:=he x (by simp) hx
     simp only [List.filter_cons,e]
     cases g x<;>simp<;>omega
theorem mL.moved {suf:Pth} {l:List INm} (h:mL suf l) {id:Int} {p q:Pth} (hm:(id,p)∈l) (hps:p≠suf) (hq:q≠[]) (hnu:¬ p <:+ q.tail) (hqt:∃ k∈l,k.2=q.tail) (hqo:∀ m∈l,m.2=q→m.1=id) :
   mL suf (l.map fun m=>(m.1,ren p q m.2))∧∀ m∈l,(aO (l.map fun m=>(m.1,ren p q m.2)) (ren p q m.2):Int)=aO l m.2+(if m.2=q.tail then 1 else 0) - (if m.2=p.tail then 1 else 0):=by
 have hsq:suf <:+ q:=by
   obtain ⟨k,hk,e⟩:=hqt
   have:=h.un k hk
   rw [e] at this
   exact this.trans (List.tail_suffix q)
 have hsp:=h.un _ hm
 have hpne:=h.ne hm
 have hqk:∀ k∈l,q <:+ k.2→p <:+ k.2:=fun k hk hs=>by
   obtain ⟨m,hm',e⟩:=h.ancS hk hs hsq
   have:m=(id,p):=h.byI hm' hm (hqo m hm' e)
   subst this
   rw [show p=q from e];exact hs
 have inj:∀ a∈l,∀ b∈l,ren p q a.2=ren p q b.2→a=b:=fun a ha b hb e=>by
   by_cases h1:p <:+ a.2<;>by_cases h2:p <:+ b.2
   · obtain ⟨y,e1⟩:=h1
     obtain ⟨z,e2⟩:=h2
     rw [← e1,← e2,eW,eW] at e
     exact h.byP ha hb (by rw [← e1,← e2,List.append_cancel_right e])
   · obtain ⟨y,e1⟩:=h1
     rw [← e1,eW,eI h2] at e
     exact absurd (hqk b hb ⟨y,e⟩) h2
   · obtain ⟨z,e2⟩:=h2
     rw [← e2,eW,eI h1] at e
     exact absurd (hqk a ha ⟨z,e.symm⟩) h1
   · rw [eI h1,eI h2] at e
     exact h.byP ha hb e
 have parP:∀ k∈l,p <:+ k.2→∃ j∈l,j.2=k.2.tail:=fun k hk hs=>by
   rcases h.par k hk with e|e
   · rw [e] at hs
     exact absurd (hs.eq_of_length_le hsp.length_le) hps
   · exact e
 have tl:∀ y:Pth,y≠[]→(y++q).tail=y.tail++q∧(y++p).tail=y.tail++p:=fun y hy=>by
   cases y with
   | nil=>exact absurd rfl hy
   | cons a y=>exact ⟨rfl,rfl⟩
 have lnd:l.Nodup:=p0 h.ids
 refine ⟨⟨h.sne,?_,by rw [List.map_map];exact h.ids,?_,?_⟩,?_⟩
 · rw [List.map_map]
   have:∀ l':List INm,(∀ x∈l',x∈l)→l'.Nodup→(l'.map ((·.2) ∘ fun m:INm=>(m.1,ren p q m.2))).Nodup:=by
     intro l'
     induction l' with
     | nil=>intro _ _;simp
     | cons a l' ih =>
       intro hs hn
       obtain ⟨n1,n2⟩:=List.nodup_cons.1 hn
       rw [List.map_cons,List.nodup_cons]
       refine ⟨fun hc=>?_,ih (fun x hx=>hs x (by simp [hx])) n2⟩
       obtain ⟨b,hb,e⟩:=List.mem_map.1 hc
       exact n1 (inj b (hs b (by simp [hb])) a (hs a (by simp)) e ▸ hb)
   exact this l (fun _ h=>h) lnd
 · intro m hm'
   obtain ⟨k,hk,rfl⟩:=List.mem_map.1 hm'
   simp only
   by_cases hs:p <:+ k.2
   · obtain ⟨y,e⟩:=hs
     rw [← e,eW]
     exact hsq.trans (List.suffix_append ..)
   · rw [eI hs];exact h.un k hk
 · intro m hm'
   obtain ⟨k,hk,rfl⟩:=List.mem_map.1 hm'
   simp only
   by_cases hs:p <:+ k.2
   · obtain ⟨y,e⟩:=hs
     rw [← e,eW]
     right
     by_cases hy:y=[]
     · subst hy
       obtain ⟨j,hj,ej⟩:=hqt
       exact ⟨_,List.mem_map_of_mem hj,by simp only;rw [ej,eI hnu];rfl⟩
     · obtain ⟨j,hj,ej⟩:=parP k hk ⟨y,e⟩
       rw [← e,(tl y hy).2] at ej
       exact ⟨_,List.mem_map_of_mem hj,by simp only;rw [ej,eW,(tl y hy).1]⟩
   · rw [eI hs]
     rcases h.par k hk with e|⟨j,hj,ej⟩
     · exact .inl e
     · refine .inr ⟨_,List.mem_map_of_mem hj,?_⟩
       simp only
       rw [ej,eI (fun hc=>hs (hc.trans (List.tail_suffix _)))]
 · intro m hml
   have hqne:∀ y:Pth,y++q≠[]:=fun y e=>hq (List.append_eq_nil_iff.1 e).2
   have e1:aO (l.map fun m=>(m.1,ren p q m.2)) (ren p q m.2)=(l.filter fun k=>decide (ren p q k.2≠[]∧(ren p q k.2).tail=ren p q m.2)).length:=by
     unfold aO
     rw [List.filter_map,List.length_map];rfl
   have hd:=DX (f:=fun k:INm=>decide (ren p q k.2≠[]∧(ren p q k.2).tail=ren p q m.2)) (g:=fun k:INm=>decide (k.2≠[]∧k.2.tail=m.2)) lnd hm fun k hk hne=>by
     congr 1
     apply propext
     by_cases hs:p <:+ k.2
     · obtain ⟨j,hj,ej⟩:=parP k hk hs
       obtain ⟨y,e⟩:=hs
       have hy:y≠[]:=fun e2=>by
         subst e2
         exact hne (h.byP hk hm e.symm)
       rw [← e] at ej ⊢
       rw [eW,(tl y hy).1,(tl y hy).2]
       rw [(tl y hy).2] at ej
       constructor
       · rintro ⟨_,e3⟩
         refine ⟨fun e4=>hpne (List.append_eq_nil_iff.1 e4).2,?_⟩
         have:j=m:=inj j hj m hml (by rw [ej,eW,e3])
         rw [← this,ej]
       · rintro ⟨_,e3⟩
         exact ⟨hqne _,by rw [← e3,eW]⟩
     · rw [eI hs]
       by_cases hr:p <:+ m.2
       · obtain ⟨y,e⟩:=hr
         rw [← e,eW]
         constructor
         · rintro ⟨_,e3⟩
           exact absurd (hqk k hk (List.IsSuffix.trans (⟨y,e3.symm⟩:q <:+ k.2.tail) (List.tail_suffix _))) hs
         · rintro ⟨_,e3⟩
           exact absurd (List.IsSuffix.trans (⟨y,e3.symm⟩:p <:+ k.2.tail) (List.tail_suffix _)) hs
       · rw [eI hr]
   rw [← e1] at hd
   have f1:decide (ren p q (id,p).2≠[]∧(ren p q (id,p).2).tail=ren p q m.2)=decide (m.2=q.tail):=by
     have e2:ren p q p=q:=by have:=eW p q [];simpa using this
     simp only [e2]
     congr 1
     apply propext
     by_cases hr:p <:+ m.2
     · obtain ⟨y,e⟩:=hr
       rw [← e,eW]
       constructor
       · rintro ⟨_,e3⟩
         have:=congrArg List.length e3
         rw [List.length_tail,List.length_append] at this
         have:=List.length_pos_iff.2 hq
         omega
       · intro e3
         exact absurd ⟨y,e3⟩ hnu
     · rw [eI hr]
       exact ⟨fun e3=>e3.2.symm,fun e3=>⟨hq,e3.symm⟩⟩
   have g1:decide ((id,p).2≠[]∧(id,p).2.tail=m.2)=decide (m.2=p.tail):=by
     congr 1
     apply propext
     exact ⟨fun e3=>e3.2.symm,fun e3=>⟨hpne,e3.symm⟩⟩
   simp only [f1,g1,decide_eq_true_eq] at hd
   have hd':aO (l.map fun m=>(m.1,ren p q m.2)) (ren p q m.2)+(if m.2=p.tail then 1 else 0)=aO l m.2+(if m.2=q.tail then 1 else 0):=hd
   clear hd
   revert hd'
   split<;>split<;>intro hd'<;>omega
def NK (d:List Rdn):Pth:=d.map (bL true)
def OkD (d:List Rdn):Prop:=(prS d).2=0
instance (d:List Rdn):Decidable (OkD d):=inferInstanceAs (Decidable (_=_))
theorem D0:∀ (d:List Rdn) (i:Nat),i≤32→(fz i d=0↔i+d.length≤32∧∀ r∈d,r≠[]∧cr [] r=0)
 | [],i,h=>by simp [fz,h]
 | r::d,i,h=>by
   unfold fz
   by_cases h1:i=32
   · rw [if_pos h1]
     constructor
     · intro h;exact absurd h (by decide)
     · rintro ⟨h2,_⟩;simp at h2;omega
   rw [if_neg h1]
   by_cases h2:r=[]
   · rw [if_pos h2]
     constructor
     · intro h;exact absurd h (by decide)
     · rintro ⟨_,h3⟩;exact absurd h2 (h3 r (by simp)).1
   rw [if_neg h2]
   by_cases h3:cr [] r=0
   · rw [if_neg (by simpa using h3),D0 d (i+1) (by omega)]
     constructor
     · rintro ⟨h4,h5⟩
       refine ⟨by simp;omega,fun x hx=>?_⟩
       rcases List.mem_cons.1 hx with rfl|hx
       · exact ⟨h2,h3⟩
       · exact h5 x hx
     · rintro ⟨h4,h5⟩
       exact ⟨by simp at h4;omega,fun x hx=>h5 x (by simp [hx])⟩
   · rw [if_pos h3]
     constructor
     · intro h;exact absurd h h3
     · rintro ⟨_,h4⟩;exact absurd (h4 r (by simp)).2 h3
theorem zc (d:List Rdn):OkD d↔d.length≤32∧(∀ r∈d,r≠[]∧cr [] r=0)∧pI d=false∧(aK false d).length≤4096:=by
 have hc:=D0 d 0 (by omega)
 unfold OkD prS
 by_cases h1:fz 0 d=0
 · rw [if_neg (by simpa using h1)]
   have:=hc.1 h1
   by_cases h2:pI d=true
   · rw [if_pos h2]
     constructor
     · intro h;exact absurd h (by decide)
     · rintro ⟨_,_,h3,_⟩;rw [h2] at h3;cases h3
   rw [if_neg h2]
   by_cases h3:4096<(aK false d).length
   · rw [if_pos h3]
     constructor
     · intro h;exact absurd h (by decide)
     · rintro ⟨_,_,_,h4⟩;omega
   rw [if_neg h3]
   exact ⟨fun _=>⟨by omega,this.2,by simpa using h2,by omega⟩,fun _=>rfl⟩
 · rw [if_pos h1]
   constructor
   · intro h;exact absurd h h1
   · rintro ⟨h2,h3,_⟩;exact absurd (hc.2 ⟨by omega,h3⟩) h1
theorem OkD.nil:OkD []:=(zc []).2 ⟨by simp,by simp,by rfl,by decide⟩
theorem Ka (k:Bool) (c d:List Rdn):(aK k d).length≤(aK k (c++d)).length:=by
 have h1:=jl (d.map (bL k)) 44
 have h2:=jl ((c++d).map (bL k)) 44
 rw [List.map_append,List.map_append,List.sum_append,List.length_append] at h2
 unfold aK
 rw [List.map_append]
 by_cases hd:d.map (bL k)=[]
 · rw [hd];simp [Lib.join]
 · rw [if_neg hd] at h1
   rw [if_neg (by simp only [List.append_eq_nil_iff,not_and];exact fun _=>hd)] at h2
   omega
theorem OkD.app {c d:List Rdn} (h:OkD (c++d)):OkD d:=by
 rw [zc] at h ⊢
 obtain ⟨h1,h2,h3,h4⟩:=h
 refine ⟨by simp at h1;omega,fun r hr=>h2 r (by simp [hr]),?_,Nat.le_trans (Ka _ _ _) h4⟩
 unfold pI at h3 ⊢
 rw [List.any_append,Bool.or_eq_false_iff] at h3
 exact h3.2
theorem OkD.drop {d:List Rdn} (h:OkD d) (n:Nat):OkD (d.drop n):=OkD.app (c:=d.take n) (by rw [List.take_append_drop];exact h)
theorem OkD.tail {d:List Rdn} (h:OkD d):OkD d.tail:=by rw [← List.drop_one];exact h.drop 1
theorem OkD.len {d:List Rdn} (h:OkD d):d.length≤32:=((zc d).1 h).1
theorem eX {d:List Rdn} (h:OkD d):zI d=(aK true d,0):=by
 unfold zI;rw [if_neg (by simpa [OkD] using h)]
theorem zd {d:List Rdn} (h:¬ OkD d):(zI d).2≠0:=by
 unfold zI;rw [if_pos (show (prS d).2≠0 from h)];exact h
theorem OkD.plain {d:List Rdn} (h:OkD d):Nw (aK true d)=(eJ d,0):=by
 obtain ⟨h1,h2,h3,h4⟩:=(zc d).1 h
 have hc:fz 0 d=0:=(D0 d 0 (by omega)).2 ⟨by omega,h2⟩
 have:=Gd d
 rw [← pZ d]
 exact Kx (DZ d 0 hc) (by rw [pZ];omega)
theorem He (d:List Rdn):NK (eJ d)=NK d:=by
 unfold NK eJ
 rw [List.map_map]
 rw [show (bL true ∘ eU)=bL true from funext Hq]
theorem fR {d e:List Rdn} (hd:OkD d) (he:OkD e):aK true d=aK true e↔NK d=NK e:=by
 constructor
 · intro h
   have h1:=hd.plain
   rw [h,he.plain] at h1
   have:eJ e=eJ d:=by injection h1
   rw [← He d,← this,He]
 · intro h
   unfold NK at h
   unfold aK
   rw [h]
theorem aQ (d:List Rdn):(NK d).length=d.length:=by simp [NK]
theorem F3 {d:List Rdn}:NK d=[]↔d=[]:=by simp [NK]
theorem NY (c d:List Rdn):NK (c++d)=NK c++NK d:=by simp [NK]
theorem IR (d:List Rdn) (n:Nat):NK (d.drop n)=(NK d).drop n:=by simp [NK]
theorem zy (d:List Rdn):NK d.tail=(NK d).tail:=by simp [NK]
def bD (d b:List Rdn):Bool:=decide (OkD d) && decide (OkD b) && decide (b.length≤d.length) && decide (aK true (d.drop (d.length - b.length))=aK true b)
theorem bw {d b:List Rdn}:bD d b=true↔OkD d∧OkD b∧NK b <:+ NK d:=by
 unfold bD
 simp only [Bool.and_eq_true,decide_eq_true_eq]
 constructor
 · rintro ⟨⟨⟨h1,h2⟩,h3⟩,h4⟩
   refine ⟨h1,h2,?_⟩
   rw [fR (h1.drop _) h2,IR] at h4
   rw [← h4]
   exact List.drop_suffix _ _
 · rintro ⟨h1,h2,h3⟩
   have hl:=h3.length_le
   rw [aQ,aQ] at hl
   refine ⟨⟨⟨h1,h2⟩,hl⟩,?_⟩
   rw [fR (h1.drop _) h2,IR]
   obtain ⟨y,e⟩:=h3
   have:y.length=d.length - b.length:=by
     have:=congrArg List.length e
     rw [List.length_append,aQ,aQ] at this
     omega
   rw [← e,← this,List.drop_left]
def sh (a b:List Rdn):Bool:=decide (a.length=b.length) && bD a b
theorem Gj {a b:List Rdn}:sh a b=true↔OkD a∧OkD b∧NK a=NK b:=by
 unfold sh
 rw [Bool.and_eq_true,decide_eq_true_eq,bw]
 constructor
 · rintro ⟨h1,h2,h3,h4⟩
   exact ⟨h2,h3,(h4.eq_of_length (by rw [aQ,aQ,h1])).symm⟩
 · rintro ⟨h1,h2,h3⟩
   exact ⟨by rw [← aQ,h3,aQ],h1,h2,by rw [h3];exact List.suffix_refl _⟩
structure Ent (α:Type) where
 id:Int
 nm:List Rdn
 av:α
variable {α:Type}
def cE (l:List (Ent α)):List INm:=l.map fun x=>(x.id,NK x.nm)
structure TOk (suf:List Rdn) (last:Int) (l:List (Ent α)):Prop where
 sok:OkD suf
 ok:∀ x∈l,OkD x.nm
 inv:mL (NK suf) (cE l)
 ids:∀ x∈l,1≤x.id∧x.id≤last
theorem dJ {l:List (Ent α)} {x:Ent α} (h:x∈l):(x.id,NK x.nm)∈cE l:=List.mem_map.2 ⟨x,h,rfl⟩
theorem TOk.byN {suf:List Rdn} {last:Int} {l:List (Ent α)} (h:TOk suf last l) {a b:Ent α} (ha:a∈l) (hb:b∈l) (e:NK a.nm=NK b.nm):a=b:=by
 have hn:=h.inv.nd
 unfold cE at hn
 rw [List.map_map] at hn
 exact dR hn ha hb e
theorem TOk.byI {suf:List Rdn} {last:Int} {l:List (Ent α)} (h:TOk suf last l) {a b:Ent α} (ha:a∈l) (hb:b∈l) (e:a.id=b.id):a=b:=by
 have hn:=h.inv.ids
 unfold cE at hn
 rw [List.map_map] at hn
 exact dR hn ha hb e
def atE (l:List (Ent α)) (d:List Rdn):Option (Ent α):=if OkD d then l.find? (fun x=>decide (NK x.nm=NK d)) else none
def aN (l:List (Ent α)) (d:List Rdn):Int:=match atE l d with|some x=>x.id|none=>0
def mE (l:List (Ent α)) (id:Int):Option (Ent α):=l.find? (fun x=>decide (x.id=id))
def gy (l:List (Ent α)) (id:Int):Nat:=match mE l id with|some x=>aO (cE l) (NK x.nm)|none=>0
theorem bE {l:List (Ent α)} {d:List Rdn} {x:Ent α} (h:atE l d=some x):OkD d∧x∈l∧NK x.nm=NK d:=by
 unfold atE at h
 split at h
 · rename_i h1
   exact ⟨h1,List.mem_of_find?_eq_some h,by simpa using List.find?_some h⟩
 · cases h
theorem TOk.at {suf:List Rdn} {last:Int} {l:List (Ent α)} (h:TOk suf last l) {x:Ent α} (hx:x∈l) {d:List Rdn} (hd:OkD d) (e:NK d=NK x.nm):atE l d=some x:=by
 unfold atE
 rw [if_pos hd]
 cases hf:l.find? (fun x=>decide (NK x.nm=NK d)) with
 | none=>exact absurd e.symm (by simpa using List.find?_eq_none.1 hf x hx)
 | some y=>rw [h.byN (List.mem_of_find?_eq_some hf) hx (by rw [← e];simpa using List.find?_some hf)]
theorem mJ {l:List (Ent α)} {d:List Rdn}:atE l d=none↔(OkD d→∀ x∈l,NK x.nm≠NK d):=by
 unfold atE
 split
 · rename_i h
   rw [List.find?_eq_none]
   simp only [decide_eq_true_eq]
   exact ⟨fun h1 _=>h1,fun h1=>h1 h⟩
 · rename_i h
   exact ⟨fun _ h1=>absurd h1 h,fun _=>rfl⟩
theorem JD {l:List (Ent α)} {id:Int} {x:Ent α} (h:mE l id=some x):x∈l∧x.id=id:=⟨List.mem_of_find?_eq_some h,by simpa using List.find?_some h⟩
theorem TOk.ent {suf:List Rdn} {last:Int} {l:List (Ent α)} (h:TOk suf last l) {x:Ent α} (hx:x∈l):mE l x.id=some x:=by
 unfold mE
 cases hf:l.find? (fun y=>decide (y.id=x.id)) with
 | none=>exact absurd (List.find?_eq_none.1 hf x hx) (by simp)
 | some y=>rw [h.byI (List.mem_of_find?_eq_some hf) hx (by simpa using List.find?_some hf)]
theorem TOk.find0 {suf:List Rdn} {last:Int} {l:List (Ent α)} (h:TOk suf last l) {d:List Rdn}:aN l d=0↔atE l d=none:=by
 unfold aN
 cases hf:atE l d with
 | none=>simp
 | some x =>
   have:=h.ids x (bE hf).2.1
   simp only [reduceCtorEq,iff_false];omega
theorem TOk.kids {suf:List Rdn} {last:Int} {l:List (Ent α)} (h:TOk suf last l) {x:Ent α} (hx:x∈l):aO (cE l) (NK x.nm)=(l.filter fun k=>decide (k.nm.length=x.nm.length+1) && bD k.nm x.nm).length:=by
 unfold aO cE
 rw [List.filter_map,List.length_map]
 congr 1
 refine List.filter_congr fun k hk=>?_
 rw [Bool.eq_iff_iff]
 simp only [Function.comp_apply,Bool.and_eq_true,decide_eq_true_eq,bw]
 constructor
 · rintro ⟨h1,h2⟩
   have hl:=congrArg List.length h2
   have h3:=List.length_pos_iff.2 h1
   rw [List.length_tail,aQ,aQ] at hl
   rw [aQ] at h3
   exact ⟨by omega,h.ok k hk,h.ok x hx,by rw [← h2];exact List.tail_suffix _⟩
 · rintro ⟨h1,_,_,h2⟩
   have hne:NK k.nm≠[]:=fun e=>by
     have:=congrArg List.length e
     rw [aQ,List.length_nil] at this
     omega
   refine ⟨hne,?_⟩
   obtain ⟨y,e⟩:=h2
   have hy:=congrArg List.length e
   rw [List.length_append,aQ,aQ] at hy
   obtain ⟨a,rfl⟩:∃ a,y=[a]:=List.length_eq_one_iff.1 (by omega)
   rw [← e];rfl
def FG (l:List (Ent α)):List Rdn→List Rdn
 | []=>[]
 | r::d=>match atE l (r::d) with|some x=>x.nm|none=>FG l d
def HB (l:List (Ent α)) (d:List Rdn):List Rdn:=if OkD d then FG l d else []
def Eu (d:List Rdn) (best:List Rdn) (l:List (Ent α)):List Rdn:=l.foldl (fun b x=>if bD d x.nm=true∧b.length<x.nm.length then x.nm else b) best
theorem zf (d:List Rdn):∀ (l:List (Ent α)) (best:List Rdn),best.length≤(Eu d best l).length∧(∀ x∈l,bD d x.nm=true→x.nm.length≤(Eu d best l).length)∧(Eu d best l=best∨∃ x∈l,bD d x.nm=true∧Eu d best l=x.nm)
 | [],best=>⟨Nat.le_refl _,fun _ h=>absurd h List.not_mem_nil,.inl rfl⟩
 | x::l,best=>by
   unfold Eu
   rw [List.foldl_cons]
   by_cases hc:bD d x.nm=true∧best.length<x.nm.length
   · rw [if_pos hc]
     obtain ⟨h1,h2,h3⟩:=zf d l x.nm
     refine ⟨Nat.le_trans (Nat.le_of_lt hc.2) h1,fun y hy hu=>?_,?_⟩
     · rcases List.mem_cons.1 hy with rfl|hy
       · exact h1
       · exact h2 y hy hu
     · rcases h3 with e|⟨y,hy,hu,e⟩
       · exact .inr ⟨x,by simp,hc.1,e⟩
       · exact .inr ⟨y,by simp [hy],hu,e⟩
   · rw [if_neg hc]
     obtain ⟨h1,h2,h3⟩:=zf d l best
     refine ⟨h1,fun y hy hu=>?_,?_⟩
     · rcases List.mem_cons.1 hy with rfl|hy
       · refine Nat.le_trans ?_ h1
         simp only [not_and,Nat.not_lt] at hc
         exact hc hu
       · exact h2 y hy hu
     · rcases h3 with e|⟨y,hy,hu,e⟩
       · exact .inl e
       · exact .inr ⟨y,by simp [hy],hu,e⟩
theorem zE {β:Type} {x y z:List β} (h1:x <:+ z) (h2:y <:+ z) (h:x.length≤y.length):x <:+ y:=List.suffix_of_suffix_length_le h1 h2 h
theorem EY {suf:List Rdn} {last:Int} {l:List (Ent α)} (h:TOk suf last l):∀ (d:List Rdn),OkD d→(FG l d=[]∧∀ x∈l,¬ NK x.nm <:+ NK d)∨∃ x∈l,NK x.nm <:+ NK d∧FG l d=x.nm∧∀ y∈l,NK y.nm <:+ NK d→y.nm.length≤x.nm.length
 | [],_=>by
   left
   refine ⟨rfl,fun x hx hs=>h.inv.ne (dJ hx) (List.suffix_nil.1 hs)⟩
 | r::d,hd=>by
   unfold FG
   cases hf:atE l (r::d) with
   | some x =>
     obtain ⟨_,hx,e⟩:=bE hf
     refine .inr ⟨x,hx,by rw [e];exact List.suffix_refl _,rfl,fun y hy hs=>?_⟩
     have:=hs.length_le
     rw [← e,aQ,aQ] at this
     exact this
   | none =>
     have hno:=mJ.1 hf hd
     have hs':∀ x∈l,NK x.nm <:+ NK (r::d)→NK x.nm <:+ NK d:=fun x hx hs=>by
       rcases List.suffix_cons_iff.1 (show NK x.nm <:+ bL true r::NK d from hs) with e|e
       · exact absurd e (hno x hx)
       · exact e
     have hdd:OkD d:=OkD.app (c:=[r]) hd
     rcases EY h d hdd with ⟨h1,h2⟩|⟨x,hx,h1,h2,h3⟩
     · exact .inl ⟨h1,fun x hx hs=>h2 x hx (hs' x hx hs)⟩
     · exact .inr ⟨x,hx,h1.trans (List.suffix_cons _ _),h2,fun y hy hs=>h3 y hy (hs' y hy hs)⟩
theorem ID {suf:List Rdn} {last:Int} {l:List (Ent α)} (h:TOk suf last l) (d:List Rdn):Eu d [] l=HB l d:=by
 obtain ⟨h1,h2,h3⟩:=zf d l []
 unfold HB
 by_cases hd:OkD d
 · rw [if_pos hd]
   rcases EY h d hd with ⟨e1,e2⟩|⟨x,hx,e1,e2,e3⟩
   · rw [e1]
     rcases h3 with e|⟨y,hy,hu,e⟩
     · exact e
     · exact absurd (bw.1 hu).2.2 (e2 y hy)
   · rw [e2]
     have hxl:=h2 x hx (bw.2 ⟨hd,h.ok x hx,e1⟩)
     rcases h3 with e|⟨y,hy,hu,e⟩
     · rw [e] at hxl
       have:x.nm=[]:=by simpa using hxl
       exact absurd (F3.2 this) (h.inv.ne (dJ hx))
     · rw [e]
       rw [e] at hxl
       have hys:=(bw.1 hu).2.2
       have hl:=e3 y hy hys
       have:NK x.nm <:+ NK y.nm:=zE e1 hys (by rw [aQ,aQ];exact hxl)
       rw [h.byN hx hy (this.eq_of_length (by rw [aQ,aQ];omega))]
 · rw [if_neg hd]
   rcases h3 with e|⟨y,hy,hu,e⟩
   · exact e
   · exact absurd (bw.1 hu).1 hd
open Go Go.Sort
def cpS (a b:List UInt8):Int:=if a<b then -1 else if b<a then 1 else 0
def cpP:Pth→Pth→Int
 | [],[]=>0
 | [],_::_=>-1
 | _::_,[]=>1
 | x::a,y::b=>if cpS x y≠0 then cpS x y else cpP a b
theorem La (a:List UInt8):¬ a<a:=List.lt_irrefl a
theorem My {a b:List UInt8} (h:a<b):¬ b<a:=List.lt_asymm h
theorem K9 {a b c:List UInt8} (h1:a<b) (h2:b<c):a<c:=List.lt_trans h1 h2
theorem K8 {a b:List UInt8} (h1:¬ a<b) (h2:¬ b<a):a=b:=List.le_antisymm (List.not_lt.1 h2) (List.not_lt.1 h1)
theorem pQ (a b:List UInt8):(a<b∧cpS a b=-1)∨(a=b∧cpS a b=0)∨(b<a∧cpS a b=1):=by
 unfold cpS
 by_cases h1:a<b
 · exact .inl ⟨h1,if_pos h1⟩
 · rw [if_neg h1]
   by_cases h2:b<a
   · exact .inr (.inr ⟨h2,if_pos h2⟩)
   · exact .inr (.inl ⟨K8 h1 h2,if_neg h2⟩)
theorem K3 (a:List UInt8):cpS a a=0:=by unfold cpS;rw [if_neg (La a),if_neg (La a)]
theorem K4 {a b:List UInt8} (h:a<b):cpS a b=-1:=if_pos h
theorem NM {a b:List UInt8} (h:b<a):cpS a b=1:=by unfold cpS;rw [if_neg (My h),if_pos h]
theorem G2:∀ (a b:Pth),cpP b a=- cpP a b
 | [],[]=>rfl
 | [],_::_=>rfl
 | _::_,[]=>rfl
 | x::a,y::b=>by
   unfold cpP
   rcases pQ x y with ⟨h,e⟩|⟨h,e⟩|⟨h,e⟩
   · rw [e,NM h];rfl
   · subst h
     rw [e]
     simp only [ne_eq,not_true_eq_false,if_false]
     exact G2 a b
   · rw [e,K4 h];rfl
theorem G0:∀ {a b:Pth},cpP a b=0→a=b
 | [],[],_=>rfl
 | [],_::_,h=>by simp [cpP] at h
 | _::_,[],h=>by simp [cpP] at h
 | x::a,y::b,h=>by
   unfold cpP at h
   rcases pQ x y with ⟨h1,e⟩|⟨h1,e⟩|⟨h1,e⟩
   · rw [e] at h;simp at h
   · subst h1
     rw [e] at h
     simp only [ne_eq,not_true_eq_false,if_false] at h
     rw [G0 h]
   · rw [e] at h;simp at h
theorem G1:∀ a:Pth,cpP a a=0
 | []=>rfl
 | x::a=>by
   unfold cpP
   rw [K3]
   simpa using G1 a
theorem Fj:∀ {a b c:Pth},cpP a b<0→cpP b c<0→cpP a c<0
 | [],[],_,h,_=>by exact absurd h (by decide)
 | [],_::_,[],_,h=>by exact absurd h (by show ¬ (1:Int)<0;decide)
 | [],_::_,_::_,_,_=>by show (-1:Int)<0;decide
 | _::_,[],_,h,_=>by exact absurd h (by show ¬ (1:Int)<0;decide)
 | _::_,_::_,[],_,h=>by exact absurd h (by show ¬ (1:Int)<0;decide)
 | x::a,y::b,z::c,h1,h2=>by
   unfold cpP at h1 h2 ⊢
   rcases pQ x y with ⟨k1,e1⟩|⟨k1,e1⟩|⟨k1,e1⟩
   · rcases pQ y z with ⟨k2,e2⟩|⟨k2,e2⟩|⟨k2,e2⟩
     · rw [K4 (K9 k1 k2)];simp
     · subst k2;rw [e1];simp
     · rw [e2] at h2;simp at h2
   · subst k1
     rcases pQ x z with ⟨k2,e2⟩|⟨k2,e2⟩|⟨k2,e2⟩
     · rw [e2];simp
     · subst k2
       rw [e1] at h1 h2
       rw [e1]
       simp only [ne_eq,not_true_eq_false,if_false] at h1 h2 ⊢
       exact Fj h1 h2
     · rw [e2] at h2;simp at h2
   · rw [e1] at h1;simp at h1
def pLt (a b:Pth):Bool:=decide (cpP a b<0)
theorem Iy (a:Pth):pLt a a=false:=by unfold pLt;rw [G1];rfl
theorem zH {a b c:Pth} (h1:pLt a b=true) (h2:pLt b c=true):pLt a c=true:=by
 unfold pLt at *
 rw [decide_eq_true_eq] at *
 exact Fj h1 h2
theorem FA {a b:Pth} (h1:pLt a b=false) (h2:pLt b a=false):a=b:=by
 unfold pLt at *
 rw [decide_eq_false_iff_not] at *
 rw [G2 a b] at h2
 exact G0 (by omega)
theorem Gv {a b:Pth} (h:pLt a b=true):pLt b a=false:=by
 cases h2:pLt b a with
 | false=>rfl
 | true=>have:=zH h h2;rw [Iy] at this;cases this
theorem xk {a b c:Pth} (h1:pLt a b=false) (h2:pLt b c=false):pLt a c=false:=by
 cases h3:pLt a c with
 | false=>rfl
 | true =>
   cases h4:pLt b a with
   | true=>have:=zH h4 h3;rw [h2] at this;cases this
   | false=>have:=FA h1 h4;subst this;rw [h2] at h3;cases h3
theorem Mb {β:Type} (f:β→Pth):SWO (fun x y=>pLt (f x) (f y)) :=
 ⟨fun x=>Iy _,fun x y z=>zH,fun x y z=>xk⟩
variable {α:Type}
def pth (x:Ent α):Pth:=(NK x.nm).reverse
def leE (x y:Ent α):Bool := !pLt (pth y) (pth x)
def eQ (a:Ent α) (s:Int) (x:Ent α):Bool:=bD x.nm a.nm && (decide (s=2) || decide ((x.nm.length:Int) - a.nm.length=s))
def scL (l:List (Ent α)) (a:Ent α) (s:Int):List (Ent α):=(l.filter (eQ a s)).mergeSort leE
def scT (l:List (Ent α)) (id s:Int):List Int:=match mE l id with|none=>[]|some a=>if s<0∨2<s then [] else (scL l a s).map (·.id)
theorem Fw {x y:Ent α} (h:pth x=pth y):NK x.nm=NK y.nm:=by
 have:=congrArg List.reverse h
 simpa [pth] using this
theorem E7 (a b c:Ent α) (h1:leE a b=true) (h2:leE b c=true):leE a c=true:=by
 unfold leE at *
 simp only [Bool.not_eq_true'] at *
 exact xk h2 h1
theorem E8 (a b:Ent α):(leE a b || leE b a)=true:=by
 unfold leE
 cases h:pLt (pth b) (pth a) with
 | false=>rfl
 | true=>rw [Gv h];rfl
theorem TOk.one {suf:List Rdn} {last:Int} {l:List (Ent α)} (h:TOk suf last l) {a:Ent α} {s:Int} {m:List (Ent α)} (hp:m.Perm (l.filter (eQ a s))) (hs:m.Pairwise fun x y=>leE x y=true):m=scL l a s:=by
 have h2:=List.pairwise_mergeSort (le:=leE) (fun a b c=>E7 a b c) E8 (l.filter (eQ a s))
 have hq:(scL l a s).Perm (l.filter (eQ a s)):=List.mergeSort_perm _ _
 refine List.Perm.eq_of_pairwise (le:=fun x y=>leE x y=true) (fun x y hx hy e1 e2=>?_) hs h2 (hp.trans hq.symm)
 have mx:x∈l:=(List.mem_filter.1 (hp.mem_iff.1 hx)).1
 have my:y∈l:=(List.mem_filter.1 (hq.mem_iff.1 hy)).1
 unfold leE at e1 e2
 simp only [Bool.not_eq_true'] at e1 e2
 exact h.byN mx my (Fw (FA e2 e1))
def FM (x:Ent α) (l:List (Ent α)):Nat→Nat
 | 0=>0
 | k+1=>match l[k]? with|some y=>if pLt (pth x) (pth y) then FM x l k else k+1|none=>k+1
def Jp (x:Ent α) (l:List (Ent α)):List (Ent α):=l.take (FM x l l.length)++[x]++l.drop (FM x l l.length)
theorem Fa (x:Ent α) (l:List (Ent α)):∀ k,k≤l.length→FM x l k≤k∧(∀ j y,FM x l k≤j→j<k→l[j]?=some y→pLt (pth x) (pth y)=true)∧(∀ y,FM x l k≠0→l[FM x l k - 1]?=some y→pLt (pth x) (pth y)=false)
 | 0,_=>⟨Nat.le_refl _,fun j _ _ h=>absurd h (Nat.not_lt_zero _),fun y h=>absurd rfl h⟩
 | k+1,h=>by
   unfold FM
   have hk:l[k]?=some l[k]:=List.getElem?_eq_getElem (by omega)
   rw [hk]
   simp only
   by_cases hc:pLt (pth x) (pth l[k])=true
   · rw [if_pos hc]
     obtain ⟨h1,h2,h3⟩:=Fa x l k (by omega)
     refine ⟨by omega,fun j y hj1 hj2 he=>?_,h3⟩
     by_cases e:j=k
     · subst e
       rw [hk] at he
       injection he with he
       rw [← he];exact hc
     · exact h2 j y hj1 (by omega) he
   · rw [if_neg hc]
     refine ⟨Nat.le_refl _,fun j y h1 h2=>by omega,fun y _ he=>?_⟩
     rw [Nat.add_sub_cancel,hk] at he
     injection he with he
     rw [← he];simpa using hc
theorem Jo (x:Ent α) (l:List (Ent α)):(Jp x l).Perm (l++[x]):=by
 unfold Jp
 rw [List.append_assoc]
 refine (List.perm_append_comm_assoc _ _ _).trans ?_
 rw [List.take_append_drop]
 exact List.perm_append_comm
theorem GK {x:Ent α} {l:List (Ent α)} (hs:l.Pairwise fun x y=>leE x y=true):(Jp x l).Pairwise fun x y=>leE x y=true:=by
 obtain ⟨h1,h2,h3⟩:=Fa x l l.length (Nat.le_refl _)
 unfold Jp
 obtain ⟨k,hk⟩:∃ k,FM x l l.length=k:=⟨_,rfl⟩
 rw [hk] at h1 h2 h3 ⊢
 have hup:∀ y∈l.drop k,pLt (pth x) (pth y)=true:=fun y hy=>by
   obtain ⟨j,hj,e⟩:=List.mem_iff_getElem.1 hy
   rw [List.getElem_drop] at e
   rw [List.length_drop] at hj
   exact h2 (k+j) y (by omega) (by omega) (by rw [List.getElem?_eq_getElem (by omega),e])
 have hdn:∀ y∈l.take k,pLt (pth x) (pth y)=false:=fun y hy=>by
   obtain ⟨j,hj,e⟩:=List.mem_iff_getElem.1 hy
   rw [List.getElem_take] at e
   rw [List.length_take] at hj
   have hk0:k≠0:=by omega
   have hl:l[k - 1]?=some (l[k - 1]'(by omega)):=List.getElem?_eq_getElem (by omega)
   have h4:=h3 _ hk0 hl
   by_cases ej:j=k - 1
   · subst ej;rw [← e];exact h4
   · have h5:=List.pairwise_iff_getElem.1 hs j (k - 1) (by omega) (by omega) (by omega)
     rw [e] at h5
     unfold leE at h5
     rw [Bool.not_eq_true'] at h5
     exact xk h4 h5
 rw [List.append_assoc,List.pairwise_append]
 refine ⟨hs.sublist (List.take_sublist _ _),?_,?_⟩
 · rw [List.singleton_append,List.pairwise_cons]
   refine ⟨fun y hy=>?_,hs.sublist (List.drop_sublist _ _)⟩
   unfold leE
   rw [Gv (hup y hy)];rfl
 · intro a ha b hb
   rw [List.singleton_append] at hb
   rcases List.mem_cons.1 hb with rfl|hb
   · unfold leE;rw [hdn a ha];rfl
   · obtain ⟨i,hi,e1⟩:=List.mem_iff_getElem.1 ha
     obtain ⟨j,hj,e2⟩:=List.mem_iff_getElem.1 hb
     rw [List.getElem_take] at e1
     rw [List.getElem_drop] at e2
     rw [List.length_take] at hi
     rw [List.length_drop] at hj
     rw [← e1,← e2]
     exact List.pairwise_iff_getElem.1 hs i (k+j) (by omega) (by omega) (by omega)
def HL (m l:List (Ent α)):List (Ent α):=l.foldl (fun m x=>Jp x m) m
theorem Fb:∀ (l m:List (Ent α)),(HL m l).Perm (m++l)
 | [],m=>by simp [HL]
 | x::l,m=>by
   unfold HL
   rw [List.foldl_cons]
   refine (Fb l (Jp x m)).trans ?_
   refine ((Jo x m).append_right l).trans ?_
   rw [List.append_assoc];rfl
theorem CB:∀ (l m:List (Ent α)),(m.Pairwise fun x y=>leE x y=true)→(HL m l).Pairwise fun x y=>leE x y=true
 | [],m,h=>h
 | x::l,m,h=>by
   unfold HL
   rw [List.foldl_cons]
   exact CB l _ (GK h)
theorem TOk.ins {suf:List Rdn} {last:Int} {l:List (Ent α)} (h:TOk suf last l) (a:Ent α) (s:Int):HL [] (l.filter (eQ a s))=scL l a s :=
 h.one (by simpa using Fb (l.filter (eQ a s)) []) (CB _ _ List.Pairwise.nil)
theorem TOk.srt {suf:List Rdn} {last:Int} {l:List (Ent α)} (h:TOk suf last l) (a:Ent α) (s:Int) {m:List (Ent α)} (hp:m.Perm (l.filter (eQ a s))):m.mergeSort leE=scL l a s :=
 h.one ((List.mergeSort_perm _ _).trans hp) (List.pairwise_mergeSort (le:=leE) (fun a b c=>E7 a b c) E8 m)
theorem KO {suf:List Rdn} {last:Int} {l:List (Ent α)} (h:TOk suf last l) {a x:Ent α} (ha:a∈l) (hx:x∈l) (s:Int):eQ a s x=(decide (0≤((pth x).length:Int) - (pth a).length) && decide ((pth x).take (pth a).length=pth a) && (decide (s=2) || decide (((pth x).length:Int) - (pth a).length=s))):=by
 have hl:∀ x:Ent α,(pth x).length=x.nm.length:=fun x=>by simp [pth,aQ]
 unfold eQ
 rw [hl,hl]
 congr 1
 rw [Bool.eq_iff_iff,Bool.and_eq_true,decide_eq_true_eq,decide_eq_true_eq,bw]
 constructor
 · rintro ⟨_,_,y,e⟩
   have hy:=congrArg List.length e
   rw [List.length_append,aQ,aQ] at hy
   refine ⟨by omega,?_⟩
   have:pth x=pth a++y.reverse:=by unfold pth;rw [← e,List.reverse_append]
   rw [this,← hl a,List.take_left'];rfl
 · rintro ⟨h1,h2⟩
   refine ⟨h.ok x hx,h.ok a ha,?_⟩
   have h3:pth a <+: pth x:=by rw [← h2];exact List.take_prefix _ _
   unfold pth at h3
   exact List.reverse_prefix.1 h3
variable {α:Type}
def eO (n:List Rdn) (k:Nat) (tn:List Rdn):List Rdn:=n.take (n.length - k)++tn
def Hy (l:List (Ent α)) (id:Int) (tn:List Rdn):Bool:=match atE l tn with|some y=>decide (y.id≠id)|none=>false
def H6 (l:List (Ent α)) (dn tn:List Rdn):Bool:=l.any fun y=>bD y.nm dn && !decide (OkD (eO y.nm dn.length tn))
def FD (suf:List Rdn) (l:List (Ent α)) (id:Int) (dn tn:List Rdn):Int :=
 if sh dn suf=true then 53 else if ¬ OkD tn∨tn=[] then 34 else if bD tn.tail dn=true then 53 else if atE l tn.tail=none then 32 else if Hy l id tn=true then 68 else if H6 l dn tn=true then 34 else 0
def b8 (suf:List Rdn) (l:List (Ent α)) (k:Int) (dn tn:List Rdn):Int :=
 if k<1∨4<k then 1
 else if k=1 then (if ¬ OkD dn then 34 else if atE l dn≠none then 68 else if sh dn suf=false∧(dn=[]∨atE l dn.tail=none) then 32 else if 4096≤l.length then 80 else 0)
 else match atE l dn with
   | none=>32
   | some x=>if k=2 then (if aO (cE l) (NK x.nm)≠0 then 66 else 0) else if k=3 then 0 else FD suf l x.id dn tn
def mK (l:List (Ent α)) (last:Int) (dn:List Rdn) (v:α):List (Ent α):=l++[⟨last+1,dn,v⟩]
def zq (l:List (Ent α)) (id:Int):List (Ent α):=l.filter fun x=>decide (x.id≠id)
def mF (l:List (Ent α)) (id:Int) (v:α):List (Ent α):=l.map fun x=>if x.id=id then { x with av:=v } else x
def iB (l:List (Ent α)) (dn tn:List Rdn):List (Ent α):=l.map fun x=>if bD x.nm dn=true then { x with nm:=eO x.nm dn.length tn } else x
def doT (suf:List Rdn) (l:List (Ent α)) (last:Int) (k:Int) (dn tn:List Rdn) (v:α):List (Ent α)×Int :=
 if b8 suf l k dn tn≠0 then (l,last)
 else if k=1 then (mK l last dn v,last+1)
 else if k=2 then (zq l (aN l dn),last)
 else if k=3 then (mF l (aN l dn) v,last)
 else (mF (iB l dn tn) (aN l dn) v,last)
theorem Gz (l:List (Ent α)) (last:Int) (dn:List Rdn) (v:α):cE (mK l last dn v)=cE l++[(last+1,NK dn)]:=by simp [cE,mK]
theorem Gy (l:List (Ent α)) (id:Int):cE (zq l id)=(cE l).filter fun m=>decide (m.1≠id):=by
 unfold cE zq
 rw [List.filter_map];rfl
theorem Dz (l:List (Ent α)) (id:Int) (v:α):cE (mF l id v)=cE l:=by
 unfold cE mF
 rw [List.map_map]
 refine List.map_congr_left fun x _=>?_
 simp only [Function.comp_apply]
 split<;>rfl
theorem IB {n dn tn:List Rdn} (h:bD n dn=true):NK (eO n dn.length tn)=ren (NK dn) (NK tn) (NK n):=by
 obtain ⟨_,_,hs⟩:=bw.1 h
 unfold ren
 rw [if_pos hs,aQ,aQ]
 unfold eO
 rw [NY]
 congr 1
 simp [NK,List.map_take]
theorem TOk.ndOf_ren {suf:List Rdn} {last:Int} {l:List (Ent α)} (h:TOk suf last l) {dn:List Rdn} (hd:OkD dn) (tn:List Rdn):cE (iB l dn tn)=(cE l).map fun m=>(m.1,ren (NK dn) (NK tn) m.2):=by
 unfold cE iB
 rw [List.map_map,List.map_map]
 refine List.map_congr_left fun x hx=>?_
 simp only [Function.comp_apply]
 by_cases hu:bD x.nm dn=true
 · rw [if_pos hu,IB hu]
 · rw [if_neg hu]
   rw [eI fun hs=>hu (bw.2 ⟨h.ok x hx,hd,hs⟩)]
theorem TOk.nil {suf:List Rdn} {last:Int} (h:OkD suf) (hs:suf≠[]):TOk (α:=α) suf last [] :=
 ⟨h,fun _ h=>absurd h List.not_mem_nil,mL.nil fun e=>hs (F3.1 e),fun _ h=>absurd h List.not_mem_nil⟩
theorem TOk.cha {suf:List Rdn} {last:Int} {l:List (Ent α)} (h:TOk suf last l) (id:Int) (v:α):TOk suf last (mF l id v):=by
 refine ⟨h.sok,fun x hx=>?_,by rw [Dz];exact h.inv,fun x hx=>?_⟩
 all_goals
   obtain ⟨y,hy,rfl⟩:=List.mem_map.1 hx
   split
   · first|exact h.ok y hy|exact h.ids y hy
   · first|exact h.ok y hy|exact h.ids y hy
structure OU (suf:List Rdn) (l:List (Ent α)) (dn:List Rdn):Prop where
 ok:OkD dn
 no:∀ x∈l,NK x.nm≠NK dn
 par:NK dn=NK suf∨∃ x∈l,NK x.nm=(NK dn).tail
theorem TOk.canA {suf:List Rdn} {last:Int} {l:List (Ent α)} (h:TOk suf last l) {dn tn:List Rdn} (ha:b8 suf l 1 dn tn=0):OU suf l dn∧l.length<4096:=by
 unfold b8 at ha
 rw [if_neg (by decide),if_pos rfl] at ha
 by_cases h1:OkD dn
 rotate_left
 · rw [if_pos h1] at ha;exact absurd ha (by decide)
 rw [if_neg (by simpa using h1)] at ha
 by_cases h2:atE l dn=none
 rotate_left
 · rw [if_pos h2] at ha;exact absurd ha (by decide)
 rw [if_neg (by simpa using h2)] at ha
 by_cases h3:sh dn suf=false∧(dn=[]∨atE l dn.tail=none)
 · rw [if_pos h3] at ha;exact absurd ha (by decide)
 rw [if_neg h3] at ha
 by_cases h4:4096≤l.length
 · rw [if_pos h4] at ha;exact absurd ha (by decide)
 refine ⟨⟨h1,mJ.1 h2 h1,?_⟩,by omega⟩
 cases hs:sh dn suf with
 | true=>exact .inl (Gj.1 hs).2.2
 | false =>
   right
   have h5:¬ (dn=[]∨atE l dn.tail=none):=fun e=>h3 ⟨hs,e⟩
   cases ht:atE l dn.tail with
   | none=>exact absurd (.inr ht) h5
   | some x =>
     obtain ⟨_,hx,e⟩:=bE ht
     exact ⟨x,hx,by rw [e,zy]⟩
theorem TOk.add {suf:List Rdn} {last:Int} {l:List (Ent α)} (h:TOk suf last l) (hl:0≤last) {dn:List Rdn} (hc:OU suf l dn) (v:α) :
   TOk suf (last+1) (mK l last dn v)∧aO (cE (mK l last dn v)) (NK dn)=0∧∀ q,aO (cE (mK l last dn v)) q=aO (cE l) q+if (NK dn).tail=q then 1 else 0:=by
 obtain ⟨h1,h2,h3⟩:=h.inv.added (id:=last+1) (p:=NK dn) (fun m hm=>by
   obtain ⟨x,hx,rfl⟩:=List.mem_map.1 hm
   have:=h.ids x hx
   simp only;omega) (fun m hm=>by
   obtain ⟨x,hx,rfl⟩:=List.mem_map.1 hm
   exact hc.no x hx) (by
   rcases hc.par with e|⟨x,hx,e⟩
   · exact .inl e
   · exact .inr ⟨_,dJ hx,e⟩)
 rw [Gz]
 refine ⟨⟨h.sok,fun x hx=>?_,by rw [Gz];exact h1,fun x hx=>?_⟩,h2,h3⟩
 · rcases List.mem_append.1 hx with hx|hx
   · exact h.ok x hx
   · rw [List.mem_singleton.1 hx];exact hc.ok
 · rcases List.mem_append.1 hx with hx|hx
   · have:=h.ids x hx;omega
   · rw [List.mem_singleton.1 hx]
     simp only;omega
theorem TOk.del {suf:List Rdn} {last:Int} {l:List (Ent α)} (h:TOk suf last l) {x:Ent α} (hx:x∈l) (h0:aO (cE l) (NK x.nm)=0) :
   TOk suf last (zq l x.id)∧∀ q,aO (cE (zq l x.id)) q+(if (NK x.nm).tail=q then 1 else 0)=aO (cE l) q:=by
 obtain ⟨h1,h2⟩:=h.inv.deleted (dJ hx) h0
 rw [Gy]
 refine ⟨⟨h.sok,fun y hy=>h.ok y (List.mem_filter.1 hy).1,by rw [Gy];exact h1,fun y hy=>h.ids y (List.mem_filter.1 hy).1⟩,h2⟩
structure N2 (suf:List Rdn) (l:List (Ent α)) (x:Ent α) (dn tn:List Rdn):Prop where
 mem:x∈l
 ok:OkD dn
 nk:NK x.nm=NK dn
 tok:OkD tn
 tne:tn≠[]
 nos:NK dn≠NK suf
 nun:¬ NK dn <:+ (NK tn).tail
 par:∃ y∈l,NK y.nm=(NK tn).tail
 oth:∀ y∈l,NK y.nm=NK tn→y=x
 all:∀ y∈l,bD y.nm dn=true→OkD (eO y.nm dn.length tn)
theorem TOk.canM {suf:List Rdn} {last:Int} {l:List (Ent α)} (h:TOk suf last l) {x:Ent α} {dn tn:List Rdn} (hx:atE l dn=some x) (ha:FD suf l x.id dn tn=0):N2 suf l x dn tn:=by
 obtain ⟨hd,hm,e⟩:=bE hx
 unfold FD at ha
 by_cases h1:sh dn suf=true
 · rw [if_pos h1] at ha;exact absurd ha (by decide)
 rw [if_neg h1] at ha
 by_cases h2:¬ OkD tn∨tn=[]
 · rw [if_pos h2] at ha;exact absurd ha (by decide)
 rw [if_neg h2] at ha
 have ht:OkD tn:=by
   by_cases c:OkD tn
   · exact c
   · exact absurd (.inl c) h2
 by_cases h3:bD tn.tail dn=true
 · rw [if_pos h3] at ha;exact absurd ha (by decide)
 rw [if_neg h3] at ha
 by_cases h4:atE l tn.tail=none
 · rw [if_pos h4] at ha;exact absurd ha (by decide)
 rw [if_neg h4] at ha
 by_cases h5:Hy l x.id tn=true
 · rw [if_pos h5] at ha;exact absurd ha (by decide)
 rw [if_neg h5] at ha
 by_cases h6:H6 l dn tn=true
 · rw [if_pos h6] at ha;exact absurd ha (by decide)
 refine ⟨hm,hd,e,ht,fun c=>h2 (.inr c),fun c=>h1 (Gj.2 ⟨hd,h.sok,c⟩),fun c=>h3 (bw.2 ⟨ht.tail,hd,by rw [zy];exact c⟩),?_,fun y hy c=>?_,fun y hy hu=>?_⟩
 · cases h7:atE l tn.tail with
   | none=>exact absurd h7 h4
   | some y =>
     obtain ⟨_,hy,e2⟩:=bE h7
     exact ⟨y,hy,by rw [e2,zy]⟩
 · have:=h.at hy ht c.symm
   unfold Hy at h5
   rw [this] at h5
   simp only [decide_eq_true_eq,ne_eq,Decidable.not_not] at h5
   exact h.byI hy hm h5
 · have h7:=List.any_eq_false.1 (by simpa [H6] using h6:(l.any fun y=>bD y.nm dn && !decide (OkD (eO y.nm dn.length tn)))=false) y hy
   rw [hu] at h7
   simpa using h7
theorem TOk.mov {suf:List Rdn} {last:Int} {l:List (Ent α)} (h:TOk suf last l) {x:Ent α} {dn tn:List Rdn} (hc:N2 suf l x dn tn) :
   TOk suf last (iB l dn tn)∧∀ y∈l,(aO (cE (iB l dn tn)) (ren (NK dn) (NK tn) (NK y.nm)):Int)=aO (cE l) (NK y.nm)+(if NK y.nm=(NK tn).tail then 1 else 0) - (if NK y.nm=(NK dn).tail then 1 else 0):=by
 have hm:(x.id,NK dn)∈cE l:=by rw [← hc.nk];exact dJ hc.mem
 obtain ⟨h1,h2⟩:=h.inv.moved hm hc.nos (fun e=>hc.tne (F3.1 e)) hc.nun (by
   obtain ⟨y,hy,e⟩:=hc.par
   exact ⟨_,dJ hy,e⟩) (fun m hm e=>by
   obtain ⟨y,hy,rfl⟩:=List.mem_map.1 hm
   rw [hc.oth y hy e])
 rw [h.ndOf_ren hc.ok]
 refine ⟨⟨h.sok,fun y hy=>?_,by rw [h.ndOf_ren hc.ok];exact h1,fun y hy=>?_⟩,fun y hy=>h2 _ (dJ hy)⟩
 · obtain ⟨z,hz,rfl⟩:=List.mem_map.1 hy
   split
   · rename_i hu;exact hc.all z hz hu
   · exact h.ok z hz
 · obtain ⟨z,hz,rfl⟩:=List.mem_map.1 hy
   split
   · exact h.ids z hz
   · exact h.ids z hz
theorem TOk.done {suf:List Rdn} {last:Int} {l:List (Ent α)} (h:TOk suf last l) (hl:0≤last) (k:Int) (dn tn:List Rdn) (v:α):TOk suf (doT suf l last k dn tn v).2 (doT suf l last k dn tn v).1∧last≤(doT suf l last k dn tn v).2∧(doT suf l last k dn tn v).2≤last+1∧(doT suf l last k dn tn v).1.length≤l.length+1:=by
 unfold doT
 by_cases h0:b8 suf l k dn tn=0
 rotate_left
 · rw [if_pos h0];exact ⟨h,Int.le_refl _,by omega,Nat.le_succ _⟩
 rw [if_neg (by simpa using h0)]
 by_cases h1:k=1
 · subst h1
   rw [if_pos rfl]
   exact ⟨(h.add hl (h.canA h0).1 v).1,by simp only;omega,by simp only;omega,by simp [mK]⟩
 rw [if_neg h1]
 unfold b8 at h0
 by_cases hk:k<1∨4<k
 · rw [if_pos hk] at h0;exact absurd h0 (by decide)
 rw [if_neg hk,if_neg h1] at h0
 cases hx:atE l dn with
 | none=>rw [hx] at h0;simp at h0
 | some x =>
   rw [hx] at h0
   simp only at h0
   have hf:aN l dn=x.id:=by unfold aN;rw [hx]
   rw [hf]
   by_cases h2:k=2
   · rw [if_pos h2] at h0 ⊢
     by_cases h3:aO (cE l) (NK x.nm)=0
     · exact ⟨(h.del (bE hx).2.1 h3).1,Int.le_refl _,by simp only;omega,Nat.le_succ_of_le (List.length_filter_le _ _)⟩
     · rw [if_pos h3] at h0;exact absurd h0 (by decide)
   rw [if_neg h2] at h0 ⊢
   by_cases h3:k=3
   · rw [if_pos h3]
     exact ⟨h.cha _ _,Int.le_refl _,by simp only;omega,by simp [mF]⟩
   rw [if_neg h3] at h0 ⊢
   exact ⟨(h.mov (h.canM hx h0)).1.cha _ _,Int.le_refl _,by simp only;omega,by simp [mF,iB]⟩
end Go.Proofs.YtdhjplmjpjfjnaaGreat.Av
