/- Joined texts of the walk, made small by a program. -/
import Derived.Test.YtgpnbkdcdmfgcaaGreatYC3
import Derived.Test.YtgpnbkdcdmfgcaaGreatYC4
import Derived.Test.YtgpnbkdcdmfgcaaGreatYP5
set_option linter.unusedSimpArgs false
set_option linter.unusedVariables false
namespace Go.Proofs.YtgpnbkdcdmfgcaaGreat.Av
open Go
set_option maxHeartbeats 8000000
set_option maxRecDepth 100000
theorem tS {X:Type} {z:X} {d e:List X} (hl:d.length=e.length) (h:∀ i,i<d.length→d.getD i z=e.getD i z):d=e:=by
 refine List.ext_getElem hl fun i h1 h2=>?_
 have:=h i h1
 simpa [h1,h2] using this
theorem yN {d e:List Rdn} {cap cap':Option Nat} {b:Bool} (hb:b=true↔d=e) (hn:d.length≤1100000) (hn':e.length≤1100000) (hr:∀ r∈d,r.length≤1100000) (hr':∀ r∈e,r.length≤1100000) {L:List Blk} {K:AV→List Blk→Prop} (h:K (.bool b) L) :
   ad Tryz.prog 29 [.sl (d.map aC) d.length cap,.sl (e.map aC) e.length cap'] L K:=by
 have hF:d≠e→Hid (K (.bool false) L):=fun hne=>by
   have:b=false:=by rcases b with _|_<;>simp_all
   rw [this] at h
   exact hid h
 have hT:d=e→Hid (K (.bool true) L):=fun he=>by rw [hb.2 he] at h;exact hid h
 clear h hb
 by_cases hl:d.length=e.length
 case neg =>
   have hK:=hF (fun e=>hl (by rw [e]))
   have g0:¬ (d.length:Int)=(e.length:Int):=by omega
   clear hF hT
   refine ae eM (by simp [cI]) ?_
   simp only [cI,an]
   refine wk ?_
   exact aj hK.out
 case pos =>
   have hat:=hid (fun k=>@ir d k)
   have hat':=hid (fun k=>@ir e k)
   replace hr:=hid hr
   replace hr':=hid hr'
   have g0:(e.length:Int)=(d.length:Int):=by omega
   have hlN:=hid hl
   clear hl
   replace hF:=hid hF
   replace hT:=hid hT
   refine ae eM (by simp [cI]) ?_
   simp only [cI,an]
   refine wk ?_
   refine ak (fun m T' L'=>∃ k:Nat,m=d.length - k∧k≤d.length∧Hid (∀ i,i<k→d.getD i []=e.getD i [])∧T'=[(14,.int .i64 (k:Int)),(13,.int .i64 d.length),(0,.sl (d.map aC) d.length cap),(1,.sl (e.map aC) e.length cap')]∧L=L') (CutS (b:=Nat.le_refl _)) ⟨0,rfl,Nat.zero_le _,hid (by simp),rfl,rfl⟩ ?_
   rintro _ _ L' ⟨k,rfl,hk,hI,rfl,e⟩
   subst e
   by_cases hlt:k<d.length
   · have hlt':k<e.length:=by have:=hlN.out;omega
     have g1:(k:Int)<(d.length:Int):=by omega
     have g1':(k:Int)<(e.length:Int):=by omega
     have g2:IntKind.i64.wrap ((k:Int)+1)=(k:Int)+1:=af (by omega) (by omega)
     have e2:=hat.out k hlt
     have e2':=hat'.out k hlt'
     have e3:k<(d.map aC).length:=by simpa using hlt
     have e3':k<(e.map aC).length:=by simpa using hlt'
     obtain ⟨r,hri⟩:∃ r,d.getD k []=r:=⟨_,rfl⟩
     obtain ⟨r',hri'⟩:∃ r,e.getD k []=r:=⟨_,rfl⟩
     have hrl:=hr.out r (by rw [← hri];simp [hlt])
     have hrl':=hr'.out r' (by rw [← hri'];simp [hlt'])
     rw [hri] at e2
     rw [hri'] at e2'
     have hne:r≠r'→Hid (K (.bool false) L):=fun hh=>hF.out fun he=>hh (by rw [← hri,← hri',he])
     have hstep:r=r'→Hid (∀ i,i<k+1→d.getD i []=e.getD i []):=fun hh=>hid fun i hi=>by
       rcases Nat.lt_or_ge i k with h1|h1
       · exact hI.out i h1
       · have:i=k:=by omega
         subst this
         rw [hri,hri',hh]
     replace hne:=hid hne
     replace hstep:=hid hstep
     clear hri hri' g0
     by_cases hll:r.length=r'.length
     case neg =>
       have hK:=hne.out (fun e=>hll (by rw [e]))
       have g5:¬ (r.length:Int)=(r'.length:Int):=by omega
       clear hstep hne
       refine wk ?_
       exact aj hK.out
     case pos =>
       have g5:(r'.length:Int)=(r.length:Int):=by omega
       have hllN:=hid hll
       clear hll
       refine wk ?_
       refine ak (fun m T' L'=>∃ j:Nat,m=r.length - j∧j≤r.length∧Hid (∀ i,i<j→r.getD i ([],[])=r'.getD i ([],[]))∧T'=[(33,.int .i64 (j:Int)),(32,.int .i64 r.length),(5,.int .i64 (k:Int)),(14,.int .i64 (k:Int)),(13,.int .i64 d.length),(0,.sl (d.map aC) d.length cap),(1,.sl (e.map aC) e.length cap')]∧L=L') (CutS (b:=Nat.le_refl _)) ⟨0,rfl,Nat.zero_le _,hid (by simp),rfl,rfl⟩ ?_
       rintro _ _ L' ⟨j,rfl,hj,hJ,rfl,e⟩
       subst e
       by_cases hjl:j<r.length
       · have hjl':j<r'.length:=by have:=hllN.out;omega
         have j1:(j:Int)<(r.length:Int):=by omega
         have j1':(j:Int)<(r'.length:Int):=by omega
         have j2:IntKind.i64.wrap ((j:Int)+1)=(j:Int)+1:=af (by omega) (by omega)
         have e5:=dv hjl
         have e5':=dv hjl'
         have e6:j * 2+2≤(aS r).length:=by rw [cC];omega
         have e6':j * 2+2≤(aS r').length:=by rw [cC];omega
         obtain ⟨⟨ty,va⟩,ha⟩:∃ a,r.getD j ([],[])=a:=⟨_,rfl⟩
         obtain ⟨⟨ty',va'⟩,ha'⟩:∃ a,r'.getD j ([],[])=a:=⟨_,rfl⟩
         rw [ha] at e5
         rw [ha'] at e5'
         simp only [mf] at e5 e5'
         have hne2:(ty,va)≠(ty',va')→Hid (K (.bool false) L):=fun hh=>hne.out fun he=>hh (by rw [← ha,← ha',he])
         have hstep2:(ty,va)=(ty',va')→Hid (∀ i,i<j+1→r.getD i ([],[])=r'.getD i ([],[])):=fun hh=>hid fun i hi=>by
           rcases Nat.lt_or_ge i j with h1|h1
           · exact hJ.out i h1
           · have:i=j:=by omega
             subst this
             rw [ha,ha',hh]
         clear ha ha' g5
         by_cases hty:ty=ty'
         · by_cases hva:va=va'
           · have hst:=hstep2 (by rw [hty,hva])
             clear hstep2 hne2 hstep hne
             subst hty hva
             refine wk ?_
             exact ap _ _ _ (by omega) (CutL (b:=by simp)) ⟨j+1,rfl,hjl,hst,rfl,rfl⟩
           · have hK:=hne2 (by simp [hva])
             clear hstep2 hne2 hstep hne
             refine wk ?_
             exact aj hK.out
         · have hK:=hne2 (by simp [hty])
           clear hstep2 hne2 hstep hne
           refine wk ?_
           exact aj hK.out
       · have j1:¬ (j:Int)<(r.length:Int):=by omega
         have hje:j=r.length:=by omega
         have hst:=hstep.out (tS hllN.out (by rw [← hje];exact hJ.out))
         clear hstep hne hje
         refine wk ?_
         exact ap _ _ _ (by omega) (CutL (b:=by simp)) ⟨k+1,rfl,hlt,hst,rfl,rfl⟩
   · have g1:¬ (k:Int)<(d.length:Int):=by omega
     have hke:k=d.length:=by omega
     have hK:=hT.out (tS hlN.out (by rw [← hke];exact hI.out))
     clear hT hF hke
     refine wk ?_
     exact aj hK.out
theorem Bx {l m:List Atr} {cap cap':Option Nat} {b:Bool} (hb:b=true↔l=m) (hl:l.length≤1100000) (hl':m.length≤1100000) (hz:∀ a∈l,a.2.length≤1100000) (hz':∀ a∈m,a.2.length≤1100000) {L:List Blk} {K:AV→List Blk→Prop} (h:K (.bool b) L) :
   ad Tryz.prog 30 [.sl (aB l) l.length cap,.sl (aB m) m.length cap'] L K:=by
 have hF:l≠m→Hid (K (.bool false) L):=fun hne=>by
   have:b=false:=by rcases b with _|_<;>simp_all
   rw [this] at h
   exact hid h
 have hT:l=m→Hid (K (.bool true) L):=fun he=>by rw [hb.2 he] at h;exact hid h
 clear h hb
 by_cases hll:l.length=m.length
 case neg =>
   have hK:=hF (fun e=>hll (by rw [e]))
   have g0:¬ (l.length:Int)=(m.length:Int):=by omega
   clear hF hT
   refine ae eK (by simp [cH]) ?_
   simp only [cH,an]
   refine wk ?_
   exact aj hK.out
 case pos =>
   replace hz:=hid hz
   replace hz':=hid hz'
   have g0:(m.length:Int)=(l.length:Int):=by omega
   have hlN:=hid hll
   clear hll
   replace hF:=hid hF
   replace hT:=hid hT
   have h8:∀ {l:List Atr} {k:Nat},k<l.length→(aB l).getD (k * 2) .undef=.str (l.getD k ([],[])).1:=fun {l k} hlt=>by
     have h3:=congrArg (fun l=>l[0]?) (im hlt)
     simp only [List.getElem?_take_of_lt (show 0<2 by omega),List.getElem?_drop,Nat.add_zero] at h3
     rw [List.getD_eq_getElem?_getD,h3];rfl
   replace h8:=@hid _ @h8
   refine ae eK (by simp [cH]) ?_
   simp only [cH,an]
   refine wk ?_
   refine ak (fun q T' L'=>∃ k:Nat,q=l.length - k∧k≤l.length∧Hid (∀ i,i<k→l.getD i ([],[])=m.getD i ([],[]))∧T'=[(14,.int .i64 (k:Int)),(13,.int .i64 l.length),(0,.sl (aB l) l.length cap),(1,.sl (aB m) m.length cap')]∧L=L') (CutS (b:=Nat.le_refl _)) ⟨0,rfl,Nat.zero_le _,hid (by simp),rfl,rfl⟩ ?_
   rintro _ _ L' ⟨k,rfl,hk,hI,rfl,e⟩
   subst e
   by_cases hlt:k<l.length
   · have hlt':k<m.length:=by have:=hlN.out;omega
     have g1:(k:Int)<(l.length:Int):=by omega
     have g1':(k:Int)<(m.length:Int):=by omega
     have g2:IntKind.i64.wrap ((k:Int)+1)=(k:Int)+1:=af (by omega) (by omega)
     have e4:k * 2+1<(aB l).length:=by rw [gi];omega
     have e4':k * 2<(aB l).length:=by omega
     have f4:k * 2+1<(aB m).length:=by rw [gi];omega
     have f4':k * 2<(aB m).length:=by omega
     have e5:=xm hlt
     have f5:=xm hlt'
     have e8:=h8.out hlt
     have f8:=h8.out hlt'
     obtain ⟨⟨nm,vs⟩,ha⟩:∃ a,l.getD k ([],[])=a:=⟨_,rfl⟩
     obtain ⟨⟨nm',vs'⟩,ha'⟩:∃ a,m.getD k ([],[])=a:=⟨_,rfl⟩
     have hvs:=hz.out (nm,vs) (by rw [← ha];simp [hlt])
     have hvs':=hz'.out (nm',vs') (by rw [← ha'];simp [hlt'])
     simp only at hvs hvs'
     rw [ha] at e5 e8
     rw [ha'] at f5 f8
     simp only [CF] at e5 e8 f5 f8
     have hne:(nm,vs)≠(nm',vs')→Hid (K (.bool false) L):=fun hh=>hF.out fun he=>hh (by rw [← ha,← ha',he])
     have hstep:(nm,vs)=(nm',vs')→Hid (∀ i,i<k+1→l.getD i ([],[])=m.getD i ([],[])):=fun hh=>hid fun i hi=>by
       rcases Nat.lt_or_ge i k with h1|h1
       · exact hI.out i h1
       · have:i=k:=by omega
         subst this
         rw [ha,ha',hh]
     clear ha ha' g0
     by_cases hnm:nm=nm'
     case neg =>
       have hK:=hne (by simp [hnm])
       clear hstep hne
       refine wk ?_
       exact aj hK.out
     case pos =>
       by_cases hvl:vs.length=vs'.length
       case neg =>
         have hK:=hne (by simp;intro _ e;exact hvl (by rw [e]))
         have g5:¬ (vs.length:Int)=(vs'.length:Int):=by omega
         clear hstep hne
         subst hnm
         refine wk ?_
         exact aj hK.out
       case pos =>
         have g5:(vs'.length:Int)=(vs.length:Int):=by omega
         have hllN:=hid hvl
         replace hne:=hid hne
         replace hstep:=hid hstep
         clear hvl
         subst hnm
         refine wk ?_
         refine ak (fun q T' L'=>∃ j:Nat,q=vs.length - j∧j≤vs.length∧Hid (∀ i,i<j→vs.getD i []=vs'.getD i [])∧T'=[(49,.int .i64 (j:Int)),(48,.int .i64 vs.length),(5,.int .i64 (k:Int)),(14,.int .i64 (k:Int)),(13,.int .i64 l.length),(0,.sl (aB l) l.length cap),(1,.sl (aB m) m.length cap')]∧L=L') (CutS (b:=Nat.le_refl _)) ⟨0,rfl,Nat.zero_le _,hid (by simp),rfl,rfl⟩ ?_
         rintro _ _ L' ⟨j,rfl,hj,hJ,rfl,e⟩
         subst e
         by_cases hjl:j<vs.length
         · have hjl':j<vs'.length:=by have:=hllN.out;omega
           have j1:(j:Int)<(vs.length:Int):=by omega
           have j1':(j:Int)<(vs'.length:Int):=by omega
           have j2:IntKind.i64.wrap ((j:Int)+1)=(j:Int)+1:=af (by omega) (by omega)
           obtain ⟨v,hv⟩:∃ v,vs.getD j []=v:=⟨_,rfl⟩
           obtain ⟨v',hv'⟩:∃ v,vs'.getD j []=v:=⟨_,rfl⟩
           have g3:(vs.map AV.str).getD j .undef=.str v:=by rw [← hv];simp [hjl]
           have g3':(vs'.map AV.str).getD j .undef=.str v':=by rw [← hv'];simp [hjl']
           have hne2:v≠v'→Hid (K (.bool false) L):=fun hh=>hne.out fun he=>hh (by simp at he;rw [← hv,← hv',he])
           have hstep2:v=v'→Hid (∀ i,i<j+1→vs.getD i []=vs'.getD i []):=fun hh=>hid fun i hi=>by
             rcases Nat.lt_or_ge i j with h1|h1
             · exact hJ.out i h1
             · have:i=j:=by omega
               subst this
               rw [hv,hv',hh]
           clear hv hv' g5
           by_cases hvv:v=v'
           · have hst:=hstep2 hvv
             clear hstep2 hne2 hstep hne
             subst hvv
             refine wk ?_
             exact ap _ _ _ (by omega) (CutL (b:=by simp)) ⟨j+1,rfl,hjl,hst,rfl,rfl⟩
           · have hK:=hne2 hvv
             clear hstep2 hne2 hstep hne
             refine wk ?_
             exact aj hK.out
         · have j1:¬ (j:Int)<(vs.length:Int):=by omega
           have hje:j=vs.length:=by omega
           have hst:=hstep.out (by rw [tS hllN.out (by rw [← hje];exact hJ.out)])
           clear hstep hne hje
           refine wk ?_
           exact ap _ _ _ (by omega) (CutL (b:=by simp)) ⟨k+1,rfl,hlt,hst,rfl,rfl⟩
   · have g1:¬ (k:Int)<(l.length:Int):=by omega
     have hke:k=l.length:=by omega
     have hK:=hT.out (tS hlN.out (by rw [← hke];exact hI.out))
     clear hT hF hke
     refine wk ?_
     exact aj hK.out
theorem CE {u v:Upd} {b:Bool} (hb:b=true↔u=v) (hu:wj u) (hv:wj v) {L:List Blk} {K:AV→List Blk→Prop} (h:K (.bool b) L):ad Tryz.prog 10 [.agg (cF u),.agg (cF v)] L K:=by
 obtain ⟨k,d,t,l⟩:=u
 obtain ⟨k',d',t',l'⟩:=v
 obtain ⟨hd,ht,hl,hz⟩:=hu
 obtain ⟨hd',ht',hl',hz'⟩:=hv
 simp only [cF] at hd ht hl hz hd' ht' hl' hz' ⊢
 simp only [Upd.mk.injEq] at hb
 obtain ⟨b1,h1⟩:∃ b1:Bool,b1=decide (d=d'):=⟨_,rfl⟩
 obtain ⟨b2,h2⟩:∃ b2:Bool,b2=decide (t=t'):=⟨_,rfl⟩
 obtain ⟨b3,h3⟩:∃ b3:Bool,b3=decide (l=l'):=⟨_,rfl⟩
 have hbb:b=(decide (k=k') && (b1 && (b2 && b3))):=by
   rw [h1,h2,h3,Bool.eq_iff_iff,hb]
   simp
 rw [hbb] at h
 clear hbb hb
 replace h:=hid h
 have kk1:Hid (∀ {L:List Blk} {K:AV→List Blk→Prop},K (.bool b1) L→ad Tryz.prog 29 [dnA d,dnA d'] L K):=@hid _ (by intro L K q;exact yN (by rw [h1];simp) hd.1 hd'.1 hd.2 hd'.2 q)
 have kk2:Hid (∀ {L:List Blk} {K:AV→List Blk→Prop},K (.bool b2) L→ad Tryz.prog 29 [dnA t,dnA t'] L K):=@hid _ (by intro L K q;exact yN (by rw [h2];simp) ht.1 ht'.1 ht.2 ht'.2 q)
 have kk3:Hid (∀ {L:List Blk} {K:AV→List Blk→Prop},K (.bool b3) L→ad Tryz.prog 30 [.sl (aB l) l.length none,.sl (aB l') l'.length none] L K):=@hid _ (by intro L K q;exact Bx (by rw [h3];simp) hl hl' hz hz' q)
 clear h1 h2 h3 hd ht hl hz hd' ht' hl' hz'
 by_cases hk:k=k'
 · have hkk:decide (k=k')=true:=by simpa using hk
   rw [hkk] at h
   cases b1<;>cases b2<;>cases b3<;>(
     refine ae eJ (by simp [cG]) ?_
     simp only [cG,an]
     refine wk ?_
     exact aa rfl h.out)
 · have hkk:decide (k=k')=false:=by simpa using hk
   rw [hkk] at h
   refine ae eJ (by simp [cG]) ?_
   simp only [cG,an]
   refine wk ?_
   exact aa rfl h.out
set_option maxHeartbeats 8000000
set_option maxRecDepth 100000
theorem AA {u:Upd} (h:wj u):wj (bz u):=by
 refine ⟨h.1,?_,?_,?_⟩
 · simp only [bz];split
   · exact h.2.1
   · exact ⟨by simp,by simp⟩
 · simp only [bz];split
   · simp
   · exact h.2.2.1
 · simp only [bz];split
   · simp
   · exact h.2.2.2
theorem F5 {s:List UInt8} {x:Upd} {e:Int} (hs:s.length≤1100000) (h:rdU s=(x,e)):wj x:=by
 have hno:wj xZ:=⟨⟨by simp,by simp⟩,⟨by simp,by simp⟩,by simp,by simp⟩
 unfold rdU at h
 split at h
 · simp only [Prod.mk.injEq] at h;rw [← h.1];exact hno
 rename_i n hw
 split at h
 · simp only [Prod.mk.injEq] at h;rw [← h.1];exact hno
 rename_i u hy
 split at h
 · simp only [Prod.mk.injEq] at h;rw [← h.1];exact hno
 · simp only [Prod.mk.injEq] at h
   rw [← h.1]
   obtain ⟨hd,ht,hu⟩:=CA hs hw hy
   exact AA ⟨hd,ht,by have:=hu.1;omega,fun a ha=>by have:=(hu.2 a ha).2.1;omega⟩
structure PF (u:Upd):Prop where
 dn:u.dn.length≤1048576∧∀ r∈u.dn,r.length≤1048576∧∀ a∈r,a.1.length≤1048576
 to:u.to.length≤1048576∧∀ r∈u.to,r.length≤1048576∧∀ a∈r,a.1.length≤1048576
 attrs:u.attrs.length≤1048576∧∀ a∈u.attrs,a.1.length≤1048576∧a.2.length≤1048576∧∀ v∈a.2,v.length≤1048576
theorem PF.b {u:Upd} (h:PF u):dnB u.dn∧dnB u.to∧wu u∧wj u∧PG u:=by
 have a1:dnB u.dn:=⟨by have:=h.dn.1;omega,fun r hr=>by have:=(h.dn.2 r hr).1;omega⟩
 have a2:dnB u.to:=⟨by have:=h.to.1;omega,fun r hr=>by have:=(h.to.2 r hr).1;omega⟩
 refine ⟨a1,a2,⟨by have:=h.attrs.1;omega,fun a ha=>?_⟩,⟨a1,a2,by have:=h.attrs.1;omega,fun a ha=>by have:=(h.attrs.2 a ha).2.1;omega⟩,⟨⟨?_,?_⟩,?_⟩,⟨⟨?_,?_⟩,?_⟩,?_,?_⟩
 · obtain ⟨b1,b2,b3⟩:=h.attrs.2 a ha
   exact ⟨by omega,by omega,fun v hv=>by have:=b3 v hv;omega⟩
 · have:=h.dn.1;omega
 · intro r hr;have:=(h.dn.2 r hr).1;omega
 · intro r hr a ha;have:=(h.dn.2 r hr).2 a ha;omega
 · have:=h.to.1;omega
 · intro r hr;have:=(h.to.2 r hr).1;omega
 · intro r hr a ha;have:=(h.to.2 r hr).2 a ha;omega
 · have:=h.attrs.1;omega
 · intro a ha
   obtain ⟨b1,b2,b3⟩:=h.attrs.2 a ha
   exact ⟨by omega,by omega⟩
theorem DQ {u:Upd} (h:(wrU u).2=0):1≤(wrU u).1.length∧(wrU u).1.length≤1048581:=by
 obtain ⟨_,_,_,_,e⟩:=zJ h
 rw [e] at h ⊢
 refine ⟨List.length_pos_iff.2 (CO h),yU _ _ h⟩
theorem Gm (a b:UInt8):IntKind.u8.wrap ((BitVec.ofInt IntKind.u8.bits (a.toNat:Int) ^^^ BitVec.ofInt IntKind.u8.bits (b.toNat:Int)).toNat:Int)=((a ^^^ b).toNat:Int):=by
 have e1:BitVec.ofInt IntKind.u8.bits (a.toNat:Int)=a.toBitVec:=by
   apply BitVec.eq_of_toNat_eq
   have:=a.toNat_lt
   simp [BitVec.toNat_ofInt,IntKind.bits]
 have e2:BitVec.ofInt IntKind.u8.bits (b.toNat:Int)=b.toBitVec:=by
   apply BitVec.eq_of_toNat_eq
   have:=b.toNat_lt
   simp [BitVec.toNat_ofInt,IntKind.bits]
 rw [e1,e2]
 have:=(a ^^^ b).toNat_lt
 exact dW (by omega) (by have:(a.toBitVec ^^^ b.toBitVec).toNat<256:=(a.toBitVec ^^^ b.toBitVec).isLt;simp only [IntKind.bits];omega)
theorem Fb {a b:UInt8} (h:b≠0):a ^^^ b≠a:=fun e=>h (by
 have:a ^^^ (a ^^^ b)=a ^^^ a:=by rw [e]
 rwa [← UInt8.xor_assoc,UInt8.xor_self,UInt8.zero_xor] at this)
theorem FI {u:Upd} (hu:PF u) {a:Int} {y:UInt8} {L:List Blk} {K:AV→List Blk→Prop} (h:K (.bool true) L) :
   ad Tryz.prog 5 [.agg (cF u),.int .i64 a,.int .u8 y.toNat] L K:=by
 replace h:=hid h
 obtain ⟨hd,ht,hs,hb,hR⟩:=hu.b
 obtain ⟨⟨w,e⟩,hwe⟩:∃ q,wrU u=q:=⟨_,rfl⟩
 obtain ⟨sm,hsm⟩:∃ b,smU u=b:=⟨_,rfl⟩
 have kk1:Hid (∀ {L:List Blk} {K:AV→List Blk→Prop},K (.tup [.str w,.int .i64 e]) L→ad Tryz.prog 8 [.agg (cF u)] L K):=@hid _ (by intro L K q;exact yd hd ht hs (by rw [hwe];exact q))
 have kk2:Hid (∀ {L:List Blk} {K:AV→List Blk→Prop},K (.bool true) L→ad Tryz.prog 7 [] L K):=@hid _ (by intro L K q;exact B6 q)
 have kk3:Hid (∀ {L:List Blk} {K:AV→List Blk→Prop},K (.bool sm) L→ad Tryz.prog 6 [.agg (cF u)] L K):=@hid _ (by intro L K q;exact Cx hR.dn.1 hR.to.1 hR.attrs (fun a ha=>(hR.names a ha).2) (by rw [hsm];exact q))
 by_cases c1:e=0
 case neg =>
   clear hwe hsm hd ht hs hb hR hu
   refine ae a7 (by simp [aw]) ?_
   simp only [aw,an]
   refine wk ?_
   exact aa rfl h.out
 case pos =>
 subst c1
 cases sm with
 | false =>
   clear hwe hsm hd ht hs hb hR hu
   refine ae a7 (by simp [aw]) ?_
   simp only [aw,an]
   refine wk ?_
   exact aa rfl h.out
 | true =>
 have hl:=DQ (u:=u) (by rw [hwe])
 have hrd:=EW hs (by rw [hwe])
 have hwb:=ye u
 rw [hwe] at hl hrd hwb
 simp only at hl hrd
 have kk4:Hid (∀ {L:List Blk} {K:AV→List Blk→Prop},K (.tup [.agg (cF (bz u)),.int .i64 0]) L→ad Tryz.prog 13 [.str w] L K):=@hid _ (by intro L K q;exact zS (by omega) (by rw [hrd];exact q))
 have kk5:Hid (∀ {L:List Blk} {K:AV→List Blk→Prop},K (.agg (cF (bz u))) L→ad Tryz.prog 12 [.agg (cF u)] L K):=@hid _ (by intro L K q;exact Eg hb q)
 have kk6:Hid (∀ {L:List Blk} {K:AV→List Blk→Prop},K (.bool true) L→ad Tryz.prog 10 [.agg (cF (bz u)),.agg (cF (bz u))] L K):=@hid _ (by intro L K q;exact Ea (AA hb) q)
 obtain ⟨A,hA⟩:∃ A,IntKind.u64.wrap a=A:=⟨_,rfl⟩
 have hA2:0≤A∧A<18446744073709551616:=by rw [← hA];simp [IntKind.wrap,IntKind.bits,IntKind.signed];omega
 obtain ⟨i,hi⟩:∃ i:Nat,A.toNat % w.length=i:=⟨_,rfl⟩
 have hil:i<w.length:=by rw [← hi];exact Nat.mod_lt _ (by omega)
 have m1:IntKind.u64.wrap (w.length:Int)=(w.length:Int):=by simp [IntKind.wrap,IntKind.bits,IntKind.signed];omega
 have m2:A.tmod (w.length:Int)=(i:Int):=by
   rw [← hi,Int.natCast_emod,Int.toNat_of_nonneg hA2.1,Int.tmod_eq_emod_of_nonneg hA2.1]
 have m3:IntKind.i64.wrap (i:Int)=(i:Int):=af (by omega) (by omega)
 have m4:¬ (w.length:Int)=0:=by omega
 have m5:(i:Int)<(w.length:Int):=by omega
 obtain ⟨c,hc⟩:∃ c,w.getD i 0=c:=⟨_,rfl⟩
 have m6:=Gm c y
 have hvl:(u8s w).length=w.length:=by simp [u8s]
 have m8:(u8s w).getD i .undef=.int .u8 c.toNat:=by rw [← hc];simp [u8s,hil]
 obtain ⟨w',hw'⟩:∃ w',w'=w.take i++(c ^^^ y)::w.drop (i+1):=⟨_,rfl⟩
 have hl':w'.length=w.length:=by rw [hw'];simp;omega
 have m9:(u8s w).take i ++ .int .u8 (c ^^^ y).toNat::(u8s w).drop (i+1)=u8s w':=by rw [hw'];simp [u8s]
 have n1:=jO w'
 have n2:=iC w'
 have n4:(u8s w').length=w.length:=by simp [u8s];omega
 have n5:(u8s w').take w.length=u8s w':=by rw [← n4];exact List.take_length
 obtain ⟨⟨x,g⟩,hxg⟩:∃ q,rdU w'=q:=⟨_,rfl⟩
 have kk7:Hid (∀ {L:List Blk} {K:AV→List Blk→Prop},K (.tup [.agg (cF x),.int .i64 g]) L→ad Tryz.prog 13 [.str w'] L K):=@hid _ (by intro L K q;exact zS (by omega) (by rw [hxg];exact q))
 obtain ⟨q,hq⟩:∃ q:Bool,q=true↔x=bz u:=by
   by_cases e:x=bz u
   · exact ⟨true,by simp [e]⟩
   · exact ⟨false,by simp [e]⟩
 have kk8:Hid (∀ {L:List Blk} {K:AV→List Blk→Prop},K (.bool q) L→ad Tryz.prog 10 [.agg (cF x),.agg (cF (bz u))] L K):=@hid _ (by intro L K h;exact CE hq (F5 (by omega) hxg) (AA hb) h)
 have hend:g=0→¬ (y.toNat:Int)=0→q=false:=fun hg hy=>by
   rcases hqq:q with _|_
   · rfl
   · exfalso
     have hx:=hq.1 hqq
     rw [hg] at hxg
     have h1:=F4 hxg
     rw [hx,hwb] at h1
     simp only at h1
     have h2:w.getD i 0=w'.getD i 0:=by rw [← h1]
     rw [hc,hw'] at h2
     have h3:(w.take i++(c ^^^ y)::w.drop (i+1)).getD i 0=c ^^^ y:=by
       have:(w.take i).length=i:=by simp;omega
       simp [List.getD_eq_getElem?_getD,List.getElem?_append_right,this]
     rw [h3] at h2
     exact Fb (fun e=>hy (by rw [e];rfl)) h2.symm
 obtain ⟨b,hy2⟩:∃ b,decide ((y.toNat:Int)=0)=b:=⟨_,rfl⟩
 by_cases hg:g=0
 case neg =>
   clear hw' hc hi hA2 hsm hxg hwe hrd hwb hd ht hs hb hR hu hq hend hy2
   refine ae a7 (by simp [aw]) ?_
   simp only [aw,an]
   refine wk9 ?_
   exact aa rfl h.out
 case pos =>
 cases b with
 | true =>
   clear hw' hc hi hA2 hsm hxg hwe hrd hwb hd ht hs hb hR hu hq hend
   subst hg
   refine ae a7 (by simp [aw]) ?_
   simp only [aw,an]
   refine wk9 ?_
   exact aa rfl h.out
 | false =>
   obtain rfl:=hend hg (by simpa using hy2)
   clear hw' hc hi hA2 hsm hxg hwe hrd hwb hd ht hs hb hR hu hq hend
   subst hg
   refine ae a7 (by simp [aw]) ?_
   simp only [aw,an]
   refine wk9 ?_
   exact aa rfl h.out
open Go Go.ChangeShapes
set_option maxHeartbeats 8000000
set_option maxRecDepth 100000
theorem Ee:RdU Tryz.prog 48 mf (fun a=>a.1.length≤1048576) :=
 (ru Tryz.underlying48 (N:=2) (by kernel_rfl) (dz (sz:=1) rfl (by kernel_rfl) (vY Tryz.underlying9) (dz (sz:=1) rfl (by kernel_rfl) (vY Tryz.underlying9) (wz rfl)))).map
   fun y hy=>⟨(y.1,y.2.1),hy.1,rfl⟩
theorem Ed:RdU Tryz.prog 46 (fun r:Rdn=>[aC r]) (fun r=>r.length≤1048576∧∀ a∈r,a.1.length≤1048576) :=
 (pd Tryz.underlying46 Ee (by kernel_rfl)).map fun l hl=>⟨l,hl,rfl⟩
theorem CJ:RdU Tryz.prog 23 (fun d:List Rdn=>[dnA d]) (fun d=>d.length≤1048576∧∀ r∈d,r.length≤1048576∧∀ a∈r,a.1.length≤1048576) :=
 (pd Tryz.underlying23 Ed (by kernel_rfl)).map fun l hl=>⟨l,hl,by
   have e:∀ l:List Rdn,l.map aC=l.flatMap fun r=>[aC r]:=fun l=>by
     induction l with
     | nil=>rfl
     | cons a l ih=>rw [List.map_cons,List.flatMap_cons,ih];rfl
   simp only [dnA,e l]⟩
theorem CI:RdU Tryz.prog 63 (fun l:List (List UInt8)=>[CF l]) (fun l=>l.length≤1048576∧∀ v∈l,v.length≤1048576) :=
 (pd Tryz.underlying63 (vY Tryz.underlying9) (by kernel_rfl)).map fun l hl=>⟨l,hl,by
   have e:∀ l:List (List UInt8),l.map AV.str=l.flatMap fun r=>[AV.str r]:=fun l=>by
     induction l with
     | nil=>rfl
     | cons a l ih=>rw [List.map_cons,List.flatMap_cons,ih];rfl
   simp only [CF,e l]⟩
theorem Ef:RdU Tryz.prog 65 atA (fun a=>a.1.length≤1048576∧a.2.length≤1048576∧∀ v∈a.2,v.length≤1048576) :=
 (ru Tryz.underlying65 (N:=2) (by kernel_rfl) (dz (sz:=1) rfl (by kernel_rfl) (vY Tryz.underlying9) (dz (sz:=1) rfl (by kernel_rfl) CI (wz rfl)))).map
   fun y hy=>⟨(y.1,y.2.1),⟨hy.1,hy.2.1⟩,rfl⟩
theorem Ec:RdU Tryz.prog 26 cF PF :=
 (ru Tryz.underlying26 (N:=4) (by kernel_rfl) (dz (sz:=1) rfl (by kernel_rfl) (Rd.u (zT Tryz.underlying3)) (dz (sz:=1) rfl (by kernel_rfl) CJ (dz (sz:=1) rfl (by kernel_rfl) CJ (dz (sz:=1) rfl (by kernel_rfl) (pd Tryz.underlying24 Ef (by kernel_rfl)) (wz rfl)))))).map
   fun y hy=>⟨⟨y.1,y.2.1,y.2.2.1,y.2.2.2.1⟩,⟨hy.2.1,hy.2.2.1,hy.2.2.2.1⟩,rfl⟩
theorem CK:RdU Tryz.prog 5 (fun c:UInt8=>[.int .u8 c.toNat]) (fun _=>True) :=
 (Rd.u (zT Tryz.underlying5)).map fun n hn=>⟨b8 n.toNat,trivial,by
   have h1:=hn.1
   have h2:=hn.2
   simp only [IntKind.min,IntKind.max,IntKind.signed,IntKind.bits] at h1 h2
   simp only [o5]
   have:((n.toNat % 256:Nat):Int)=n:=by
     simp at h1 h2
     omega
   rw [this]⟩
end Go.Proofs.YtgpnbkdcdmfgcaaGreat.Av
