/- Joined texts of the walk, made small by a program. -/
import Derived.Test.YtohflefnbajajaaGreatDoorVS1
import Derived.Test.YtohflefnbajajaaGreatDoorVO1
import Derived.Test.YtohflefnbajajaaGreatDoorVE1
import Derived.Test.YtohflefnbajajaaGreatDoorVP4
import Derived.Test.YtohflefnbajajaaGreatDoorRows
import Derived.KernelRfl
import Derived.Test.YtohflefnbajajaaGreatDoorVE4
import Derived.Test.YtohflefnbajajaaGreatDoorVEoH
import Derived.Test.YtohflefnbajajaaGreatDoorVE3
set_option linter.unusedSimpArgs false
set_option linter.unusedVariables false
namespace Go.Proofs.YtohflefnbajajaaGreatDoor.Av
open Go
set_option maxHeartbeats 8000000
set_option maxRecDepth 100000
section
variable {α:Type} (key:α→List UInt8)
theorem aaK {l:List α} {k:List UInt8} {c:Nat} (hc:c≤l.length) (h1:∀ (i:Nat) (h:i<l.length),i<c→key l[i]<k) (h2:∀ h:c<l.length,¬ key l[c]<k):dt key l k=c:=by
 induction l generalizing c with
 | nil=>simp at hc;subst hc;rfl
 | cons a l ih =>
   rw [i7]
   rcases c with _|c
   · rw [if_neg (show ¬ key a<k from h2 (by simp))]
   · rw [if_pos (show key a<k from h1 0 (by simp) (by omega))]
     rw [ih (c:=c) (by simpa using hc) (fun i h hi=>show key ((a::l)[i+1]'(by simpa using h))<k from h1 (i+1) (by simpa using h) (by omega)) (fun h=>show ¬ key ((a::l)[c+1]'(by simpa using h))<k from h2 (by simpa using h))]
end
set_option maxHeartbeats 8000000
set_option maxRecDepth 100000
theorem Z8 {syn:Int} {v:List UInt8} {l:List (List UInt8)} (h:inM syn l (cx syn v)=false) {x:List UInt8}:x∈eU syn v false l↔x=v∨x∈l:=by
 rw [Ck syn v l h,oK]
theorem abF {syn:Int} {single:Bool}:∀ {vs l:List (List UInt8)},(dp syn single l vs).2=0→∀ x∈l,x∈(dp syn single l vs).1∧∀ v∈vs,cx syn v≠cx syn x
 | [],l,h0,x,hx=>by
   rw [dp] at h0 ⊢
   split
   · rename_i hc;rw [if_pos hc] at h0;cases h0
   · exact ⟨hx,fun v hv=>by cases hv⟩
 | v::vs,l,h0,x,hx=>by
   obtain ⟨h1,h2,h3⟩:=Mz h0
   rw [h3] at h0 ⊢
   obtain ⟨h4,h5⟩:=abF h0 x ((Z8 h2).2 (.inr hx))
   refine ⟨h4,fun u hu=>?_⟩
   rcases List.mem_cons.1 hu with rfl|hu
   · intro e
     simp only [inM,List.any_eq_false,decide_eq_true_eq] at h2
     exact h2 x hx e.symm
   · exact h5 u hu
theorem aaH {syn:Int} {k:List UInt8}:∀ {vs l r:List (List UInt8)},aaI syn l vs=(r,0)→(∀ v∈vs,cx syn v≠k)→aaI syn (l.filter fun x=>decide (cx syn x≠k)) vs=(r.filter fun x=>decide (cx syn x≠k),0)
 | [],l,r,h,_=>by
   rw [aaI] at h ⊢
   cases h;rfl
 | v::vs,l,r,h,hk=>by
   rw [aaI] at h ⊢
   rcases hv:eT syn v with _|n
   · rw [hv] at h;cases h
   · rw [hv] at h
     simp only at h ⊢
     have hn:cx syn v=n:=by simp [cx,hv]
     split at h
     · cases h
     · rename_i hi
       have hin:inM syn (l.filter fun x=>decide (cx syn x≠k)) n=true:=by
         simp only [Bool.not_eq_false,inM,List.any_eq_true,decide_eq_true_eq] at hi ⊢
         obtain ⟨x,hx,he⟩:=hi
         refine ⟨x,List.mem_filter.2 ⟨hx,?_⟩,he⟩
         rw [decide_eq_true_eq,he,← hn]
         exact hk v (by simp)
       rw [if_neg (fun e=>by rw [hin] at e;cases e),List.filter_filter]
       have:=aaH h fun u hu=>hk u (by simp [hu])
       rw [List.filter_filter] at this
       rw [← this]
       congr 2
       funext x
       exact Bool.and_comm _ _
theorem aaz {α:Type} {key:α→List UInt8} {v:α} {l:List α} (c:Nat) (h:∀ x∈l,key x≠key v):(l.take c++v::l.drop c).filter (fun x=>decide (key x≠key v))=l:=by
 rw [List.filter_append,List.filter_cons_of_neg (by simp),← List.filter_append,List.take_append_drop,List.filter_eq_self]
 intro x hx
 simpa using h x hx
theorem aaF {syn:Int} {single:Bool}:∀ {vs l:List (List UInt8)},(dp syn single l vs).2=0→aaI syn (dp syn single l vs).1 vs=(l,0)
 | [],l,h0=>by
   rw [dp] at h0 ⊢
   split
   · rename_i hc;rw [if_pos hc] at h0;cases h0
   · rfl
 | v::vs,l,h0=>by
   obtain ⟨h1,h2,h3⟩:=Mz h0
   rw [h3] at h0 ⊢
   obtain ⟨n,hn⟩:=Option.isSome_iff_exists.1 h1
   have hk:cx syn v=n:=by simp [cx,hn]
   obtain ⟨h4,h5⟩:=abF h0 v ((Z8 h2).2 (.inl rfl))
   have ih:=aaF h0
   have hin:inM syn (dp syn single (eU syn v false l) vs).1 n=true:=by
     simp only [inM,List.any_eq_true,decide_eq_true_eq]
     exact ⟨v,h4,hk⟩
   rw [aaI,hn]
   simp only
   rw [if_neg (by simp [hin])]
   have hf:=aaH (k:=n) ih (fun u hu=>by rw [← hk];exact h5 u hu)
   rw [hf,Ck syn v l h2,← hk]
   rw [aaz (key:=cx syn) _ (fun x hx e=>by
     simp only [inM,List.any_eq_false,decide_eq_true_eq] at h2
     exact h2 x hx e)]
theorem VT {n:List UInt8} {vs:List (List UInt8)}:∀ {l:List Atr},eB (fp n vs false l) n=vs
 | []=>by simp [fp,eB]
 | a::t=>by
   rw [fp]
   by_cases ha:ae a.1<ae n
   · have hne:¬ ae a.1=ae n:=fun e=>by rw [e] at ha;exact List.lt_irrefl _ ha
     rw [if_neg (fun e=>e.2 ha),if_pos (fun e=>hne e.symm),decide_eq_true ha]
     simp only [Bool.not_true,Bool.or_false,List.nil_append,List.singleton_append]
     rw [eB,if_neg hne,VT]
   · rw [if_pos ⟨rfl,ha⟩,List.append_assoc,List.singleton_append,eB,if_pos rfl]
theorem VZ {ts:List Typ} {l:List Atr} {ty:Typ} {now:List (List UInt8)} (h:InA ts l) (ht:gq ts ty.1=some ty):fp ty.1 (eB l ty.1) (eB l ty.1).isEmpty (fp ty.1 now false l)=l:=by
 rw [HB ty.1 l h.1,EL ty.1 now l h.1]
 rcases hg:l[dt ch l (ae ty.1)]? with _|a
 · simp only [List.isEmpty_nil]
   have hno:=tj (k:=ae ty.1) h.1 (fun a ha=>by rw [hg] at ha;cases ha)
   rw [GZ,List.filter_append,List.filter_eq_self.2 (fun a ha=>by simpa using hno a ha)]
   simp
 · simp only
   by_cases he:ae a.1=ae ty.1
   · rw [if_pos he,if_pos he]
     obtain ⟨ty',h1,h2,h3,_⟩:=h.2 a (List.mem_of_getElem? hg)
     rw [GR he,ht] at h1
     cases h1
     rw [show a.2.isEmpty=false by simpa using h3]
     have hr:fT ch (l.set (dt ch l (ae ty.1)) (ty.1,now)):=Ly h.1 hg he.symm
     obtain ⟨hlt,hga⟩:=List.getElem?_eq_some_iff.1 hg
     have hc:dt ch (l.set (dt ch l (ae ty.1)) (ty.1,now)) (ae ty.1)=dt ch l (ae ty.1):=by
       refine aaK ch (by rw [List.length_set];omega) (fun i hi hic=>?_) (fun hi=>?_)
       · rw [List.getElem_set_ne (by omega)]
         exact (Kv h.1 i (by simpa using hi)).2 hic
       · rw [List.getElem_set_self]
         exact List.lt_irrefl _
     rw [EL ty.1 a.2 _ hr,hc]
     rw [List.getElem?_set_self hlt]
     simp only
     rw [if_pos trivial,List.set_set]
     have:(ty.1,a.2)=a:=by rw [h2]
     rw [this,← hga,List.set_getElem_self]
   · rw [if_neg he,if_neg he]
     have hno:=tj (k:=ae ty.1) h.1 (fun b hb=>by rw [hg] at hb;cases hb;exact he)
     simp only [List.isEmpty_nil]
     rw [GZ]
     exact aaz (key:=ch) (v:=(ty.1,now)) _ hno
theorem abt {ts:List Typ} {l:List Atr} {n:List UInt8} {vs:List (List UInt8)} (h:InA ts l) (ht:∀ ty∈ts,gq ts ty.1=some ty) (h0:(ZW ts l (0,n,vs)).2=0) :
   ZW ts (ZW ts l (0,n,vs)).1 (1,n,vs)=(l,0)∧(eB (ZW ts l (0,n,vs)).1 n).length=(eB l n).length+vs.length:=by
 unfold ZW at h0
 rw [if_neg (by simp)] at h0
 simp only at h0
 rcases hty:gq ts n with _|ty
 · rw [hty] at h0;cases h0
 rw [hty] at h0
 simp only at h0
 rw [if_neg (by decide)] at h0
 split at h0
 · cases h0
 rename_i hvs
 simp only [true_and] at hvs
 rw [if_neg (show ¬ ((0:Int)=2) by decide)] at h0
 split at h0
 · rename_i hc;exact absurd h0 hc
 rename_i hadd
 simp only [ne_eq,Decidable.not_not] at hadd
 obtain ⟨hmem,hfold⟩:=CO hty
 have hone:ZW ts l (0,n,vs)=(fp ty.1 (dp ty.2.1 ty.2.2.1 (eB l n) vs).1 false l,0):=by
   unfold ZW
   rw [if_neg (by simp)]
   simp only
   rw [hty]
   simp only
   rw [if_neg (by decide),if_neg (fun e=>hvs e.2),if_neg (show ¬ ((0:Int)=2) by decide),if_neg (by simpa using hadd)]
   have hne:=La (l:=eB l n) (.inr hvs) hadd
   rw [show (dp ty.2.1 ty.2.2.1 (eB l n) vs).1.isEmpty=false by simpa using hne]
 have hval:eB (fp ty.1 (dp ty.2.1 ty.2.2.1 (eB l n) vs).1 false l) n=(dp ty.2.1 ty.2.2.1 (eB l n) vs).1:=by
   rw [Im hfold.symm,VT]
 rw [hone]
 simp only
 refine ⟨?_,by rw [hval,CL hadd]⟩
 have hne:=La (l:=eB l n) (.inr hvs) hadd
 unfold ZW
 rw [if_neg (by simp)]
 simp only
 rw [hty]
 simp only
 rw [if_pos trivial,hval,if_neg (fun e=>hvs e.1),aaF hadd]
 simp only
 rw [if_neg (by simp),if_neg hvs,if_neg hvs]
 have hb:=VZ (now:=(dp ty.2.1 ty.2.2.1 (eB l n) vs).1) h (ht ty hmem)
 rw [Im hfold l] at hb
 rw [hb]
end Go.Proofs.YtohflefnbajajaaGreatDoor.Av
set_option maxRecDepth 100000
namespace Go.Proofs.YtohflefnbajajaaGreatDoor.Av
open Go
def Ys:List SOp :=
 [o1 2 (.box (tm 0)),
 o1 3 (.box (tm 1)),
 o1 4 (.mv (.av (.bool false)))]
def Yr:List SOp :=
 [o1 13 (.load true 2 (tm 2)),
 o1 14 (.call 20 [(tm 13)]),
 o1 15 (.un .not (tm 14)),
 o1 16 (.mv (tm 15)),
 .grp none 16 false
 [og 17 16 false (.faddr 0 (tm 3)),
 og 18 16 false (.load false 1 (tm 17)),
 og 19 16 false (.call 9 [(tm 18)]),
 og 20 16 false (.un .not (tm 19))]
 21 (tm 20),
 o1 22 (.mv (tm 21)),
 .grp none 22 false
 [og 23 22 false (.faddr 1 (tm 3)),
 og 24 22 false (.load false 1 (tm 23)),
 og 25 22 false (.call 21 [(tm 24)]),
 og 26 22 false (.un .not (tm 25))]
 27 (tm 26)]
def Yh:List SOp :=
 [o1 28 (.call 22 []),
 o1 4 (.mv (tm 28))]
def Yg:List SOp :=
 [o1 30 (.load true 2 (tm 2)),
 o1 31 (.faddr 0 (tm 3)),
 o1 32 (.load false 1 (tm 31)),
 o1 33 (.call 26 [(tm 30),(tm 32)]),
 o1 29 (.mv (tm 33)),
 o1 34 (.extract (tm 29) 0),
 o1 35 (.extract (tm 29) 1),
 o1 5 (.mv (tm 34)),
 o1 6 (.mv (tm 35))]
def Yf:List SOp :=
 [o1 36 (.mv (tm 6)),
 o1 37 (.bin .neq (tm 36) (iv 0))]
def Ye:List SOp :=
 [o1 38 (.call 22 []),
 o1 4 (.mv (tm 38))]
def Yd:List SOp :=
 [o1 39 (.faddr 1 (tm 3)),
 o1 40 (.load false 1 (tm 39)),
 o1 41 (.len false (tm 40)),
 o1 42 (.mv (iv 0))]
def Yc:List SOp :=
 [o1 43 (.bin .lss (tm 42) (tm 41))]
def Yb:List SOp :=
 [o1 44 (.iaddr 3 (tm 40) (tm 42)),
 o1 45 (.load true 3 (tm 44)),
 o1 8 (.alloc [(.int .i64 0),(.str []),(.sl [] 0 (some 0))]),
 o0 (.store 3 (tm 8) (tm 45))]
def Ya:List SOp :=
 [o1 46 (.faddr 0 (tm 8)),
 o0 (.store 1 (tm 46) (iv 0))]
def Yq:List SOp :=
 [o1 48 (.load true 2 (tm 2)),
 o1 49 (.mv (tm 5)),
 o1 50 (.load true 3 (tm 8)),
 o1 51 (.bslice false 3 1 [(.int .i64 0),(.str []),(.sl [] 0 (some 0))] [(0,(3,(tm 50)))]),
 o1 52 (.call 24 [(tm 48),(tm 49),(tm 51)]),
 o1 47 (.mv (tm 52)),
 o1 53 (.extract (tm 47) 0),
 o1 54 (.extract (tm 47) 1),
 o1 9 (.mv (tm 53)),
 o1 10 (.mv (tm 54))]
def Yp:List SOp :=
 [o1 55 (.mv (tm 10)),
 o1 56 (.bin .neq (tm 55) (iv 0))]
def Yo:List SOp :=
 [o1 57 (.load true 3 (tm 8)),
 o1 11 (.alloc [(.int .i64 0),(.str []),(.sl [] 0 (some 0))]),
 o0 (.store 3 (tm 11) (tm 57))]
def Yn:List SOp :=
 [o1 58 (.faddr 0 (tm 11)),
 o0 (.store 1 (tm 58) (iv 1))]
def Ym:List SOp :=
 [o1 60 (.load true 2 (tm 2)),
 o1 61 (.mv (tm 5)),
 o1 62 (.load true 3 (tm 8)),
 o1 63 (.load true 3 (tm 11)),
 o1 64 (.bslice false 3 2 [(.int .i64 0),(.str []),(.sl [] 0 (some 0)),(.int .i64 0),(.str []),(.sl [] 0 (some 0))] [(0,(3,(tm 62))),(3,(3,(tm 63)))]),
 o1 65 (.call 24 [(tm 60),(tm 61),(tm 64)]),
 o1 59 (.mv (tm 65)),
 o1 66 (.extract (tm 59) 0),
 o1 67 (.extract (tm 59) 1),
 o1 12 (.mv (tm 66)),
 o1 10 (.mv (tm 67))]
def Yl:List SOp :=
 [o1 68 (.mv (tm 10)),
 o1 69 (.bin .neq (tm 68) (iv 0)),
 o1 70 (.mv (tm 69)),
 .grp none 70 false
 [og 71 70 false (.mv (tm 12)),
 og 72 70 false (.mv (tm 5)),
 og 73 70 false (.call 25 [(tm 71),(tm 72)]),
 og 74 70 false (.un .not (tm 73))]
 75 (tm 74),
 o1 76 (.mv (tm 75)),
 .grp none 76 false
 [og 77 76 false (.mv (tm 9)),
 og 78 76 false (.faddr 1 (tm 8)),
 og 79 76 false (.load false 1 (tm 78)),
 og 80 76 false (.call 28 [(tm 77),(tm 79)]),
 og 81 76 false (.len false (tm 80)),
 og 82 76 false (.mv (tm 5)),
 og 83 76 false (.faddr 1 (tm 8)),
 og 84 76 false (.load false 1 (tm 83)),
 og 85 76 false (.call 28 [(tm 82),(tm 84)]),
 og 86 76 false (.len false (tm 85)),
 og 87 76 false (.faddr 2 (tm 8)),
 og 88 76 false (.load false 1 (tm 87)),
 og 89 76 false (.len false (tm 88)),
 og 90 76 false (.bin .add (tm 86) (tm 89)),
 og 91 76 false (.bin .neq (tm 81) (tm 90))]
 92 (tm 91)]
def Yk:List SOp :=
 [o1 4 (.mv (.av (.bool false)))]
def Yj:List SOp :=
 [o1 93 (.bin .add (tm 42) (iv 1)),
 o1 42 (.mv (tm 93))]
def Yi:List SOp :=
 [o1 94 (.call 22 []),
 o1 4 (.mv (tm 94))]
def abb:aU:=⟨95,(.seq (.sreg Ys [])
 (.seq (.seq (.sreg Yr [true,false,false,false,false,false,false])
 (.cond (tm 27) (.seq (.sreg Yh [true,false])
 .ret)
 .skip))
 (.seq (.sreg Yg [true,true,false,false,false,false,false,false,false])
 (.seq (.seq (.sreg Yf [true,false])
 (.cond (tm 37) (.seq (.sreg Ye [true,false])
 .ret)
 .skip))
 (.seq (.seq (.sreg Yd [true,true,true,false])
 (.block 0 (.loop (.seq (.sreg Yc [])
 (.seq (.cond (tm 43) .skip
 (.exit 0))
 (.seq (.block 1 (.seq (.sreg Yb [true,false,false])
 (.seq (.sreg Ya [false])
 (.seq (.sreg Yq [true,true,false,false,false,false,false,false,false,false])
 (.seq (.seq (.sreg Yp [true,false])
 (.cond (tm 56) (.exit 1)
 .skip))
 (.seq (.sreg Yo [true,false])
 (.seq (.sreg Yn [false])
 (.seq (.sreg Ym [true,true,false,false,false,false,false,false,false,false,false])
 (.seq (.sdreg Yl [.pure,.pure,.pure,.pure,.pure,(.read 0 0),.pure,.pure,.pure,.pure,.pure,(.read 0 0),(.read 0 0),(.read 0 0),.pure,.pure,(.read 0 0),(.read 0 0),(.read 0 0),.pure,(.read 0 0),(.read 0 0),.pure] [true,false,false,false,false,false])
 (.cond (tm 92) (.seq (.sreg Yk [])
 .ret)
 .skip))))))))))
 (.sreg Yj [true,false])))))))
 (.seq (.sreg Yi [true,false])
 .ret)))))),[(.tmp 4)]⟩
attribute [push_cast] Ys Yr Yh Yg Yf Ye Yd Yc Yb Ya Yq Yp Yo Yn Ym Yl Yk Yj Yi
theorem aba:aW Tryz.prog (fun _ _=>1) 7=some abb.raw:=by kernel_rfl
set_option maxHeartbeats 8000000
set_option maxRecDepth 100000
theorem N9 {ts:List Typ} {cs:List Cls} {l:List Atr} {ms:List Mdf} {capT capC cap capM:Option Nat} (hs:U2 ts cs) (hl:VL l) (hm:NZ ms) {L:List Blk} {K:AV→List Blk→Prop} (h:K (.bool true) L) :
   af Tryz.prog 7 [.agg [.sl (b9 ts) ts.length capT,.sl (ft cs) cs.length capC],.agg [.sl (a7 l) l.length cap,.sl (bS ms) ms.length capM]] L K:=by
 replace h:=hid h
 obtain ⟨fb,hfb⟩:∃ b,Pt l=b:=⟨_,rfl⟩
 obtain ⟨fd,hfd⟩:∃ b,NU ms=b:=⟨_,rfl⟩
 have kk1:Hid (∀ {L:List Blk} {K:AV→List Blk→Prop},K (.bool true) L→af Tryz.prog 22 [] L K):=hid fun q=>Mv q
 have kk2:Hid (∀ {L:List Blk} {K:AV→List Blk→Prop},K (.bool fb) L→af Tryz.prog 9 [.sl (a7 l) l.length cap] L K):=hid fun q=>Vt hl.1 (fun a ha=>(hl.2 a ha).2) (by rw [hfb];exact q)
 have kk3:Hid (∀ {L:List Blk} {K:AV→List Blk→Prop},K (.bool fd) L→af Tryz.prog 21 [.sl (bS ms) ms.length capM] L K):=hid fun q=>NT hm (by rw [hfd];exact q)
 refine ai aba (by simp [abb]) ?_
 simp only [abb,ar]
 refine wk ?_
 refine Q1 hs fun b hb=>?_
 cases b with
 | false =>
   refine sk ?_
   refine wk ?_
   exact ad rfl h.out
 | true =>
 have hts:=hb rfl
 clear hb
 cases fb with
 | false =>
   refine sk ?_
   refine wk ?_
   exact ad rfl h.out
 | true =>
 cases fd with
 | false =>
   refine sk ?_
   refine wk ?_
   exact ad rfl h.out
 | true =>
 have hf:=Tg hfb
 have hg:=NL hfd
 clear hfb hfd
 obtain ⟨R,hR⟩:∃ R,wV ts [] l=R:=⟨_,rfl⟩
 have hv:∀ a∈l,a6 a.1∧a.2.length≤9000:=fun a ha=>⟨(hl.2 a ha).1,by have:=(hf.2 a ha).1;omega⟩
 have hR1:R.1.length≤60∧∀ a∈R.1,a.2.length≤3600:=by
   have:=OZ (ts:=ts) (l:=l) (out:=[]) (i:=0) (B:=60) (Nat.le_refl _) (by simp) (fun a ha=>(hf.2 a ha).1)
   rw [hR] at this
   exact ⟨by have:=this.1;omega,fun a ha=>by have:=this.2 a ha;omega⟩
 have hR2:R.2=0→InA ts R.1:=fun e=>by rw [← hR] at e ⊢;exact aad (Z4 ts) e
 replace hl:=hid hl
 replace hm:=hid hm
 refine sk ?_
 refine wk ?_
 refine K5 hts (by omega) hv hR ?_
 clear kk2 kk3 hR
 by_cases h0:R.2=0
 rotate_left
 · clear hR1 hR2 hf hg hv hts
   refine sk ?_
   refine wk ?_
   exact ad rfl h.out
 have hin:=hR2 h0
 have hrr:∀ a∈R.1,a6 a.1:=fun a ha=>(LR hts hin ha).1
 obtain ⟨R1,R2⟩:=R
 simp only at h0 hR1 hR2 hin hrr
 subst h0
 clear hR2 hf hv
 replace hR1:=hid hR1
 replace hg:=hid hg
 replace hin:=hid hin
 replace hrr:=hid hrr
 replace hts:=hid hts
 have hml:ms.length≤60:=hg.out.1
 refine sk ?_
 refine wk ?_
 obtain ⟨xB,hxB⟩:∃ b,Blk.cells [.sl (a7 l) l.length cap,.sl (bS ms) ms.length capM]=b:=⟨_,rfl⟩
 refine am (fun m T' L'=>∃ (i:Nat) (X:List Blk),m=ms.length - i∧i≤ms.length∧T'=[(42,.int .i64 (i:Int)),(41,.int .i64 ms.length),(40,.sl (bS ms) ms.length capM),(5,.sl (a7 R1) R1.length none),(2,.ptr L.length 0)]∧L'=L++(.cells [.sl (b9 ts) ts.length capT,.sl (ft cs) cs.length capC]::xB::X)) (CutS (b:=by simp)) ⟨0,[],rfl,Nat.zero_le _,rfl,by rw [← hxB]⟩ ?_
 clear hxB
 rintro _ _ _ ⟨i,X,rfl,hi,rfl,rfl⟩
 by_cases hlt:i<ms.length
 rotate_left
 · have g1:¬ (i:Int)<(ms.length:Int):=by omega
   refine wk ?_
   exact ad rfl h.out
 clear kk1
 have g1:(i:Int)<(ms.length:Int):=by omega
 have g2:IntKind.i64.wrap ((i:Int)+1)=(i:Int)+1:=ab (by omega) (by omega)
 have e3:=Jc hlt
 have e4:i * 3+3≤(bS ms).length:=by rw [I1];omega
 obtain ⟨⟨o,n,vs⟩,ha⟩:∃ a,ms.getD i noM=a:=⟨_,rfl⟩
 have hmm:(o,n,vs)∈ms:=by rw [← ha];simp [hlt]
 have hnm:a6 n:=(hm.out.2 _ hmm).1
 have hvs:vs.length≤60:=hg.out.2 _ hmm
 rw [ha] at e3
 simp only [mdC] at e3
 obtain ⟨hl1,hl2⟩:=hR1.out
 obtain ⟨P,hP⟩:∃ P,aby ts R1 [(0,n,vs)]=P:=⟨_,rfl⟩
 have kk1:Hid (∀ {L:List Blk} {K:AV→List Blk→Prop},K (.tup [.sl (a7 P.1) P.1.length none,.int .i64 P.2]) L→af Tryz.prog 24 [.agg [.sl (b9 ts) ts.length capT,.sl (ft cs) cs.length capC],.sl (a7 R1) R1.length none,.sl [.int .i64 0,.str n,.sl (vs.map AV.str) vs.length none] 1 (some 1)] L K):=hid fun q=>En (ms:=[(0,n,vs)]) hts.out hin.out (by omega) (fun a ha=>by have:=hl2 a ha;omega) (by simp) (by simpa using ⟨hnm,by omega⟩) hP q
 clear ha hmm
 by_cases hp0:P.2=0
 rotate_left
 · clear hP hl1 hl2
   refine wk ?_
   exact aj _ _ _ (by omega) (CutL (b:=by simp)) ⟨i+1,_,rfl,hlt,rfl,rfl⟩
 have hO:(ZW ts R1 (0,n,vs)).2=0:=by
   rw [← hP,aby] at hp0
   split at hp0
   · rename_i hc;exact absurd hp0 hc
   · rename_i hc;simpa using hc
 have hP1:P.1=(ZW ts R1 (0,n,vs)).1:=by rw [← hP,aby,if_neg (by rw [hO];simp),aby]
 obtain ⟨b1,b2⟩:=abt hin.out hts.out.2.2 hO
 have hin1:InA ts P.1:=by rw [hP1];exact ZV hin.out hO
 have hPb:=Nv (ts:=ts) (l:=R1) (m:=(0,n,vs)) (B:=3600) hl2
 rw [← hP1] at b1 b2 hPb
 have h2:aby ts R1 [(0,n,vs),(1,n,vs)]=(R1,0):=by
   rw [aby,if_neg (by rw [hO];simp),← hP1,aby,b1,if_neg (by simp),aby]
 obtain ⟨V1,hV1⟩:∃ V,eB P.1 n=V:=⟨_,rfl⟩
 obtain ⟨V2,hV2⟩:∃ V,eB R1 n=V:=⟨_,rfl⟩
 rw [hV1,hV2] at b2
 have hV2l:V2.length≤3600:=by rw [← hV2];exact JH hl2
 have kk2:Hid (∀ {L:List Blk} {K:AV→List Blk→Prop},K (.tup [.sl (a7 R1) R1.length none,.int .i64 0]) L→af Tryz.prog 24 [.agg [.sl (b9 ts) ts.length capT,.sl (ft cs) cs.length capC],.sl (a7 R1) R1.length none,.sl [.int .i64 0,.str n,.sl (vs.map AV.str) vs.length none,.int .i64 1,.str n,.sl (vs.map AV.str) vs.length none] 2 (some 2)] L K):=hid fun q=>En (ms:=[(0,n,vs),(1,n,vs)]) hts.out hin.out (by omega) (fun a ha=>by have:=hl2 a ha;omega) (by simp) (by simpa using ⟨hnm,by omega⟩) h2 q
 have kk3:Hid (∀ {L:List Blk} {K:AV→List Blk→Prop},K (.bool true) L→af Tryz.prog 25 [.sl (a7 R1) R1.length none,.sl (a7 R1) R1.length none] L K):=hid fun q=>M6 (by omega) (fun a ha=>by have:=hl2 a ha;omega) q
 have kk4:Hid (∀ {L:List Blk} {K:AV→List Blk→Prop},K (.sl (V1.map AV.str) V1.length none) L→af Tryz.prog 28 [.sl (a7 P.1) P.1.length none,.str n] L K):=hid fun q=>aaE (by have:=hPb.1;omega) hin1.1 (fun a ha=>⟨(LR hts.out hin1 ha).1,by have:=hPb.2 a ha;simp only at this;omega⟩) hnm (by rw [hV1];exact q)
 have kk5:Hid (∀ {L:List Blk} {K:AV→List Blk→Prop},K (.sl (V2.map AV.str) V2.length none) L→af Tryz.prog 28 [.sl (a7 R1) R1.length none,.str n] L K):=hid fun q=>aaE (by omega) hin.out.1 (fun a ha=>⟨hrr.out a ha,by have:=hl2 a ha;omega⟩) hnm (by rw [hV2];exact q)
 have g3:IntKind.i64.wrap ((V2.length:Int)+(vs.length:Int))=(V2.length:Int)+(vs.length:Int):=ab (by omega) (by omega)
 have g4:(V1.length:Int)=(V2.length:Int)+(vs.length:Int):=by omega
 clear hP hl1 hl2 hO hP1 b1 b2 hin1 hPb h2 hV1 hV2 hV2l
 refine wk ?_
 exact aj _ _ _ (by omega) (CutL (b:=by simp)) ⟨i+1,_,rfl,hlt,rfl,rfl⟩
end Go.Proofs.YtohflefnbajajaaGreatDoor.Av
