/- Joined texts of the walk, made small by a program. -/
import Derived.Test.YtohflefnbajajaaGreatDoorVP4
import Derived.Test.YtohflefnbajajaaGreatDoorRows
import Derived.KernelRfl
import Derived.Test.YtohflefnbajajaaGreatDoorVE2
import Derived.Test.YtohflefnbajajaaGreatDoorVE3
import Derived.Test.YtohflefnbajajaaGreatDoorVE4
import Derived.WalkKit
import Derived.ProofKit
import Derived.OpenShut
import Derived.JoinedCond
import Derived.Test.YtohflefnbajajaaGreatDoorVP5
import Derived.Test.YtohflefnbajajaaGreatDoorVE6
set_option linter.unusedSimpArgs false
set_option linter.unusedVariables false
set_option maxRecDepth 100000
namespace Go.Proofs.YtohflefnbajajaaGreatDoor.Av
open Go
def Zw:List SOp :=
 [o1 4 (.box (tm 0)),
 o1 8 (.mv (.av (.bool false)))]
def Zv:List SOp :=
 [o1 17 (.load true 2 (tm 4)),
 o1 18 (.mv (tm 2)),
 o1 19 (.call 49 [(tm 17),(tm 18)]),
 o1 16 (.mv (tm 19)),
 o1 20 (.extract (tm 16) 0),
 o1 21 (.extract (tm 16) 1),
 o1 9 (.alloc [(.str []),(.int .i64 0),(.bool false),(.bool false)]),
 o0 (.store 4 (tm 9) (tm 20)),
 o1 10 (.mv (tm 21))]
def Zu:List SOp :=
 [o1 23 (.mv (tm 1)),
 o1 24 (.mv (tm 2)),
 o1 25 (.call 54 [(tm 23),(tm 24)]),
 o1 22 (.mv (tm 25)),
 o1 26 (.extract (tm 22) 0),
 o1 27 (.extract (tm 22) 1),
 o1 11 (.mv (tm 26)),
 o1 12 (.mv (tm 27))]
def Zt:List SOp :=
 [o1 28 (.mv (tm 10)),
 o1 29 (.un .not (tm 28)),
 o1 30 (.mv (tm 29)),
 .grp none 30 false
 [og 31 30 false (.mv (tm 12)),
 og 32 30 false (.un .not (tm 31))]
 33 (tm 32)]
def Zs:List SOp :=
 [o1 8 (.mv (.av (.bool false)))]
def Zr:List SOp :=
 [o1 35 (.load true 4 (tm 9)),
 o1 36 (.mv (tm 1)),
 o1 37 (.mv (tm 11)),
 o1 38 (.iaddr 2 (tm 36) (tm 37)),
 o1 39 (.faddr 1 (tm 38)),
 o1 40 (.load false 1 (tm 39)),
 o1 41 (.mv (tm 3)),
 o1 42 (.call 56 [(tm 35),(tm 40),(tm 41)]),
 o1 34 (.mv (tm 42)),
 o1 43 (.extract (tm 34) 0),
 o1 44 (.extract (tm 34) 1),
 o1 45 (.extract (tm 34) 2),
 o1 13 (.mv (tm 43)),
 o1 14 (.mv (tm 44)),
 o1 15 (.mv (tm 45))]
def Zq:List SOp :=
 [o1 46 (.mv (tm 14)),
 o1 8 (.mv (tm 46))]
def abl:aU:=⟨47,(.seq (.sreg Zw [])
 (.seq (.sreg Zv [true,true,false,false,false,false,false,false])
 (.seq (.sreg Zu [true,true,false,false,false,false,false,false])
 (.seq (.seq (.sreg Zt [true,false,false,false])
 (.cond (tm 33) (.seq (.sreg Zs [])
 .ret)
 .skip))
 (.seq (.sdreg Zr [(.read 0 0),.pure,.pure,(.read 0 0),.pure,(.read 0 0),.pure,(.read 0 0),.pure,.pure,.pure,.pure,.pure,.pure] [false,true,false,false,false,false,false,false,false,false,false,false,false,false,false])
 (.seq (.sreg Zq [true,false])
 .ret)))))),[(.tmp 8)]⟩
attribute [push_cast] Zw Zv Zu Zt Zs Zr Zq
theorem abk:aW Tryz.prog (fun _ _=>1) 30=some abl.raw:=by kernel_rfl
set_option maxHeartbeats 8000000
set_option maxRecDepth 100000
def aas (ts:List Typ) (l:List Atr) (n v:List UInt8):Bool:=match gq ts n with
 | none=>false
 | some ty=>match eT ty.2.1 v with
   | none=>false
   | some m=>inM ty.2.1 (eB l n) m
theorem aaD {ts:List Typ} {capT:Option Nat} {c2:List AV} {n2:Nat} {cap2:Option Nat} {l:List Atr} {cap:Option Nat} {n v:List UInt8} (hts:Ql ts) (hin:InA ts l) (hl:l.length≤1000000) (hz:∀ a∈l,a.2.length≤1000000) (hn:a6 n) {L:List Blk} {K:AV→List Blk→Prop} (h:K (.bool (aas ts l n v)) L) :
   af Tryz.prog 30 [.agg [.sl (b9 ts) ts.length capT,.sl c2 n2 cap2],.sl (a7 l) l.length cap,.str n,.str v] L K:=by
 have hr:=hin.1
 obtain ⟨c,hc⟩:∃ c,dt ch l (ae n)=c:=⟨_,rfl⟩
 obtain ⟨fd,hfd⟩:∃ fd,C6 ch l (ae n)=fd:=⟨_,rfl⟩
 have hv:=QN (n:=n) hr
 rw [hfd,hc] at hv
 unfold aas at h
 rw [hv] at h
 have hpc:∀ (X:List Blk) {K:AV→List Blk→Prop},K (.tup [.int .i64 c,.bool fd]) (L++X)→af Tryz.prog 54 [.sl (a7 l) l.length cap,.str n] (L++X) K:=fun X {K} q =>
   ST hl (abu l) (.inl ⟨cap,rfl⟩) hr hn (fun a ha=>(LR hts hin ha).1) (by rw [hc,hfd];exact q)
 have hfind:∀ (X:List Blk) {K:AV→List Blk→Prop},K (Ed (gq ts n)) (L++X)→af Tryz.prog 49 [.agg [.sl (b9 ts) ts.length capT,.sl c2 n2 cap2],.str n] (L++X) K:=fun X {K} q=>UF hts.1 hts.2.1 hn q
 replace hpc:=@hid _ @hpc
 replace hfind:=@hid _ @hfind
 refine ai abk (by simp [abl]) ?_
 simp only [abl,ar]
 refine wk ?_
 refine hfind.out _ ?_
 unfold Ed
 rcases hty:gq ts n with _|ty
 · rw [hty] at h
   replace h:=hid h
   simp only [Option.getD_none,Option.isSome_none,tyC]
   clear hty hv hc hfd
   refine sk ?_
   refine wk ?_
   refine hpc.out _ ?_
   refine sk ?_
   refine wk ?_
   exact ad rfl h.out
 rw [hty] at h
 simp only at h
 simp only [Option.getD_some,Option.isSome_some,tyC]
 rcases fd with _|_
 · have h':K (.bool false) L:=by
     rcases hno:eT ty.2.1 v with _|m
     · rw [hno] at h;exact h
     · rw [hno] at h
       simpa [inM] using h
   replace h':=hid h'
   clear hv h hc hfd
   refine sk ?_
   refine wk ?_
   refine hpc.out _ ?_
   refine sk ?_
   refine wk ?_
   exact ad rfl h'.out
 rw [if_pos rfl] at h
 have h0:=C5 (key:=ch) (k:=ae n) hr (d:=([],[]))
 rw [hfd,hc] at h0
 have h1:c<l.length:=by simpa using ((Bool.and_eq_true _ _).mp h0.symm).1
 have h2:=of_decide_eq_true ((Bool.and_eq_true _ _).mp h0.symm).2
 have e5:=Qg h1
 have hm:l.getD c ([],[])∈l:=by simp [h1]
 have hln:=hz _ hm
 have hiv:InV ty.2.1 (l.getD c ([],[])).2:=by
   have:=CO hty
   exact (O9 hin hm (hts.2.2 ty this.1) (h2.trans this.2.symm)).2
 obtain ⟨vs,hvs⟩:∃ vs,(l.getD c ([],[])).2=vs:=⟨_,rfl⟩
 rw [hvs] at h e5 hln hiv
 have e6:(c:Int)<(l.length:Int):=by omega
 have e7:c * 2+1<(a7 l).length:=by rw [im];omega
 have hval:∀ (X:List Blk) {K:AV→List Blk→Prop},K (QO ty.2.1 vs v) (L++X)→af Tryz.prog 56 [.agg [.str ty.1,.int .i64 ty.2.1,.bool ty.2.2.1,.bool ty.2.2.2],xP vs,.str v] (L++X) K:=fun X {K} q=>Pv hln (.inl ⟨none,rfl⟩) hiv.1 q
 replace hval:=@hid _ @hval
 clear h0 hm hvs hv hfd hc h2 hty
 unfold QO at hval
 rcases hno:eT ty.2.1 v with _|m
 · rw [hno] at h hval
   replace h:=hid h
   refine sk ?_
   refine wk ?_
   refine hpc.out _ ?_
   refine sk ?_
   refine wk ?_
   refine aK (hval.out _ ⟨rfl,rfl⟩) ?_
   refine sk ?_
   refine wk ?_
   exact ad rfl h.out
 · rw [hno] at h hval
   replace h:=hid h
   refine sk ?_
   refine wk ?_
   refine hpc.out _ ?_
   refine sk ?_
   refine wk ?_
   refine aK (hval.out _ ⟨rfl,rfl⟩) ?_
   refine sk ?_
   refine wk ?_
   exact ad rfl h.out
end Go.Proofs.YtohflefnbajajaaGreatDoor.Av
set_option maxRecDepth 100000
namespace Go.Proofs.YtohflefnbajajaaGreatDoor.Av
open Go
def Xy:List SOp :=
 [o1 4 (.box (tm 0)),
 o1 8 (.mv (.av (.bool false)))]
def Xx:List SOp :=
 [o1 12 (.faddr 0 (tm 4)),
 o1 13 (.load false 1 (tm 12)),
 o1 14 (.mv (tm 2)),
 o1 15 (.call 35 [(tm 13),(tm 14)]),
 o1 9 (.mv (tm 15))]
def Xw:List SOp :=
 [o1 16 (.mv (tm 9)),
 o1 17 (.bin .lss (tm 16) (iv 0))]
def Xv:List SOp :=
 [o1 8 (.mv (.av (.bool false)))]
def Xu:List SOp :=
 [o1 19 (.faddr 0 (tm 4)),
 o1 20 (.load false 1 (tm 19)),
 o1 21 (.mv (tm 9)),
 o1 22 (.iaddr 4 (tm 20) (tm 21)),
 o1 23 (.faddr 1 (tm 22)),
 o1 24 (.load false 1 (tm 23)),
 o1 25 (.mv (tm 3)),
 o1 26 (.call 52 [(tm 24),(tm 25)]),
 o1 18 (.mv (tm 26)),
 o1 27 (.extract (tm 18) 0),
 o1 28 (.extract (tm 18) 1),
 o1 10 (.mv (tm 27)),
 o1 11 (.mv (tm 28))]
def Xt:List SOp :=
 [o1 29 (.mv (tm 11)),
 o1 30 (.mv (tm 29)),
 .grp none 30 true
 [og 31 30 true (.faddr 0 (tm 4)),
 og 32 30 true (.load false 1 (tm 31)),
 og 33 30 true (.mv (tm 9)),
 og 34 30 true (.iaddr 4 (tm 32) (tm 33)),
 og 35 30 true (.faddr 1 (tm 34)),
 og 36 30 true (.load false 1 (tm 35)),
 og 37 30 true (.mv (tm 1)),
 og 38 30 true (.mv (tm 2)),
 og 39 30 true (.call 29 [(tm 37),(tm 38)]),
 og 40 30 true (.mv (tm 10)),
 og 41 30 true (.call 57 [(tm 36),(tm 39),(tm 40)])]
 42 (tm 41),
 o1 8 (.mv (tm 42))]
def aa1:aU:=⟨43,(.seq (.sreg Xy [])
 (.seq (.sreg Xx [true,false,false,false,false])
 (.seq (.seq (.sreg Xw [true,false])
 (.cond (tm 17) (.seq (.sreg Xv [])
 .ret)
 .skip))
 (.seq (.sreg Xu [true,true,false,false,false,false,false,false,false,false,false,false,false])
 (.seq (.sdreg Xt [.pure,.pure,.pure,(.read 0 0),.pure,(.read 0 0),.pure,(.read 0 0),.pure,.pure,(.read 0 0),.pure] [true,false,false,false])
 .ret))))),[(.tmp 8)]⟩
attribute [push_cast] Xy Xx Xw Xv Xu Xt
theorem aa0:aW Tryz.prog (fun _ _=>1) 31=some aa1.raw:=by kernel_rfl
def XZ:List SOp :=
 [o1 3 (.box (tm 0)),
 o1 5 (.box (tm 2)),
 o1 6 (.mv (.av (.bool false)))]
def XY:List SOp :=
 [o1 11 (.load true 2 (tm 3)),
 o1 12 (.call 20 [(tm 11)]),
 o1 13 (.un .not (tm 12)),
 o1 14 (.mv (tm 13)),
 .grp none 14 false
 [og 15 14 false (.mv (tm 1)),
 og 16 14 false (.call 9 [(tm 15)]),
 og 17 14 false (.un .not (tm 16))]
 18 (tm 17),
 o1 19 (.mv (tm 18)),
 .grp none 19 false
 [og 20 19 false (.iaddrA 2 1 (tm 5) (iv 1)),
 og 21 19 false (.load false 1 (tm 20)),
 og 22 19 false (.len true (tm 21)),
 og 23 19 false (.bin .gtr (tm 22) (iv 5000))]
 24 (tm 23)]
def XX:List SOp :=
 [o1 25 (.call 22 []),
 o1 6 (.mv (tm 25))]
def XW:List SOp :=
 [o1 27 (.load true 2 (tm 3)),
 o1 28 (.mv (tm 1)),
 o1 29 (.call 11 [(tm 27),(tm 28)]),
 o1 26 (.mv (tm 29)),
 o1 30 (.extract (tm 26) 0),
 o1 31 (.extract (tm 26) 1),
 o1 7 (.mv (tm 30)),
 o1 8 (.mv (tm 31))]
def XV:List SOp :=
 [o1 32 (.mv (tm 8)),
 o1 33 (.bin .neq (tm 32) (iv 0))]
def XU:List SOp :=
 [o1 34 (.call 22 []),
 o1 6 (.mv (tm 34))]
def XT:List SOp :=
 [o1 35 (.mv (tm 7)),
 o1 36 (.iaddrA 2 1 (tm 5) (iv 0)),
 o1 37 (.load false 1 (tm 36)),
 o1 38 (.call 28 [(tm 35),(tm 37)]),
 o1 39 (.mv (tm 7)),
 o1 40 (.iaddrA 2 1 (tm 5) (iv 0)),
 o1 41 (.load false 1 (tm 40)),
 o1 42 (.call 29 [(tm 39),(tm 41)]),
 o1 9 (.mv (tm 38)),
 o1 10 (.mv (tm 42))]
def XS:List SOp :=
 [o1 43 (.call 22 []),
 o1 44 (.mv (tm 43)),
 .grp none 44 true
 [og 45 44 true (.mv (tm 9)),
 og 46 44 true (.build [(.str []),(.sl [] 0 (some 0))] [(1,(1,(tm 45)))]),
 og 47 44 true (.bslice false 2 1 [(.str []),(.sl [] 0 (some 0))] [(0,(2,(tm 46)))]),
 og 48 44 true (.mv (tm 10)),
 og 49 44 true (.build [(.str []),(.sl [] 0 (some 0))] [(1,(1,(tm 48)))]),
 og 50 44 true (.bslice false 2 1 [(.str []),(.sl [] 0 (some 0))] [(0,(2,(tm 49)))]),
 og 51 44 true (.call 25 [(tm 47),(tm 50)])]
 52 (tm 51),
 o1 53 (.mv (tm 52)),
 .grp none 53 true
 [og 54 53 true (.load true 2 (tm 3)),
 og 55 53 true (.mv (tm 7)),
 og 56 53 true (.iaddrA 2 1 (tm 5) (iv 0)),
 og 57 53 true (.load false 1 (tm 56)),
 og 58 53 true (.iaddrA 2 1 (tm 5) (iv 1)),
 og 59 53 true (.load false 1 (tm 58)),
 og 60 53 true (.call 30 [(tm 54),(tm 55),(tm 57),(tm 59)]),
 og 61 53 true (.load true 2 (tm 3)),
 og 62 53 true (.mv (tm 7)),
 og 63 53 true (.iaddrA 2 1 (tm 5) (iv 0)),
 og 64 53 true (.load false 1 (tm 63)),
 og 65 53 true (.iaddrA 2 1 (tm 5) (iv 1)),
 og 66 53 true (.load false 1 (tm 65)),
 og 67 53 true (.call 31 [(tm 61),(tm 62),(tm 64),(tm 66)]),
 og 68 53 true (.eqk false .bool (tm 60) (tm 67))]
 69 (tm 68),
 o1 6 (.mv (tm 69))]
def aa7:aU:=⟨70,(.seq (.sreg XZ [])
 (.seq (.seq (.sreg XY [true,false,false,false,false,false,false])
 (.cond (tm 24) (.seq (.sreg XX [true,false])
 .ret)
 .skip))
 (.seq (.sreg XW [true,true,false,false,false,false,false,false])
 (.seq (.seq (.sreg XV [true,false])
 (.cond (tm 33) (.seq (.sreg XU [true,false])
 .ret)
 .skip))
 (.seq (.sdreg XT [.pure,(.read 0 0),(.read 0 0),(.read 0 0),.pure,(.read 0 0),(.read 0 0)] [true,true,false,false,false,false,false,false,false,false])
 (.seq (.sdreg XS [(.read 0 0),.pure,.pure,.pure,(.read 0 0),.pure,.pure,(.read 0 0),(.read 0 0),.pure,.pure,(.read 0 0),.pure,(.read 0 0),(.read 0 0),(.read 0 0),(.read 0 0),(.read 0 0),(.read 0 0),.pure,(.read 0 0),(.read 0 0),(.read 0 0),(.read 0 0)] [true,false,false,false,false,false])
 .ret)))))),[(.tmp 6)]⟩
attribute [push_cast] XZ XY XX XW XV XU XT XS
theorem aa6:aW Tryz.prog (fun _ _=>1) 8=some aa7.raw:=by kernel_rfl
set_option maxHeartbeats 8000000
set_option maxRecDepth 100000
theorem V0 {ts:List Typ} {capT:Option Nat} {c2:List AV} {n2:Nat} {cap2:Option Nat} {l:List Atr} {cap:Option Nat} {n v:List UInt8} (hts:Ql ts) (hl:l.length≤1000000) (hz:∀ a∈l,a6 a.1∧a.2.length≤1000000) (hn:a6 n) {L:List Blk} {K:AV→List Blk→Prop} (h:K (.bool (aas ts l n v)) L) :
   af Tryz.prog 31 [.agg [.sl (b9 ts) ts.length capT,.sl c2 n2 cap2],.sl (a7 l) l.length cap,.str n,.str v] L K:=by
 unfold aas at h
 refine ai aa0 (by simp [aa1]) ?_
 simp only [aa1,ar]
 refine wk ?_
 refine VP hts.1 hts.2.1 hn (fun hty=>?_) (fun t ht hty=>?_)
 · rw [hty] at h
   replace h:=hid h
   clear hty
   refine sk ?_
   refine wk ?_
   exact ad rfl h.out
 rw [hty] at h
 simp only at h
 have e6:t * 4+1<(b9 ts).length:=by rw [gG];omega
 have e8:(b9 ts).getD (t * 4+1) .undef=.int .i64 (ts.getD t fW).2.1:=by
   have h3:=congrArg (fun l=>l[1]?) (iQ ht)
   simp only [List.getElem?_take_of_lt (show 1<4 by omega),List.getElem?_drop] at h3
   rw [List.getD_eq_getElem?_getD,h3];rfl
 have g3:¬ (t:Int)<0:=by omega
 have g4:(t:Int)<(ts.length:Int):=by omega
 obtain ⟨ty,hte⟩:∃ ty,ts.getD t fW=ty:=⟨_,rfl⟩
 rw [hte] at h e8
 clear hty hte
 refine sk ?_
 refine wk ?_
 refine DC ?_
 rcases hno:eT ty.2.1 v with _|m
 · rw [hno] at h
   replace h:=hid h
   simp only [sP]
   clear hno
   refine sk ?_
   refine wk ?_
   exact ad rfl h.out
 · rw [hno] at h
   simp only at h
   obtain ⟨V,hV⟩:∃ V,eB l n=V:=⟨_,rfl⟩
   have hVl:V.length≤1000000:=by rw [← hV];exact JH fun a ha=>(hz a ha).2
   rw [hV] at h
   replace h:=hid h
   have kk1:Hid (∀ {L:List Blk} {K:AV→List Blk→Prop},K (.sl (V.map AV.str) V.length none) L→af Tryz.prog 29 [.sl (a7 l) l.length cap,.str n] L K):=hid fun q=>Lz hl hz hn (by rw [hV];exact q)
   have kk2:Hid (∀ {L:List Blk} {K:AV→List Blk→Prop},K (.bool (inM ty.2.1 V m)) L→af Tryz.prog 57 [.int .i64 ty.2.1,.sl (V.map AV.str) V.length none,.str m] L K):=hid fun q=>Vq hVl q
   simp only [sP]
   clear hno hV
   refine sk ?_
   refine wk ?_
   exact ad rfl h.out
open Go Go.ChangeShapes Go.WideShapes Go.ChangeAt Go.RowKit
theorem JZ {P:Program} {w:World} {base:Nat} {t:TypeId} {v:Value} (hg:eY P t=some false) (h:Value.okWide P w .any base t v):v.cells.toList=[v]:=by
 unfold eY at hg
 unfold Value.okWide at h
 split at hg
 · cases hg
 · cases hg
 · rename_i d h1 h2 hu
   rw [hu] at h
   split at h
   · rename_i e;cases e;exact absurd rfl (h1 _)
   · rename_i e;cases e;exact absurd rfl (h2 _ _)
   · cases v<;>try rfl
     rename_i cs
     unfold Cell.okWide at h
     split at h<;>try (rename_i e1 e2;cases e2)
     unfold Cell.ok at h
     split at h<;>first|(rename_i e1 e2;cases e2;done)|cases h
 · cases hg
open Go Go.ChangeShapes Go.WideShapes Go.ChangeAt
set_option maxHeartbeats 8000000
set_option maxRecDepth 100000
theorem Ni {P:Program} {t:TypeId} {ts:List TypeId} {X Y:Type} {a:X→AV} {ok:X→Prop} {ec':Y→List AV} {ok':Y→Prop} (hg:eY P t=some false) (h:RdU P t (fun y=>[a y]) ok) (r:ME P ts ec' ok') :
   ME P (t::ts) (fun y:X×Y=>a y.1::ec' y.2) (fun y=>ok y.1∧ok' y.2):=fun H enc w base vs ds ps hok hx hwt=>by
 obtain ⟨v,vs',d,ds',p,q,rfl,rfl,rfl,h1,h2⟩:=trodAll_cons hx
 obtain ⟨fuel,h1⟩:=h1
 obtain ⟨y,h3,h4⟩:=h H enc w fuel _ _ h1 (by simp only [Rows.uptoBulkAll] at hwt;show Rows.uptoBulk d≤1048576;omega)
 obtain ⟨z,h5,h6⟩:=r H enc w base vs' ds' q (fun j t v a b=>hok (j+1) t v a b) h2 (by simp only [Rows.uptoBulkAll] at hwt;omega)
 refine ⟨(y,z),⟨h3,h5⟩,?_⟩
 rw [JZ hg (hok 0 t v rfl rfl)] at h4
 simp only [VRL] at h4 ⊢
 obtain ⟨x,xs,e,h7,_⟩:=h4
 cases e
 exact ⟨v,vs',rfl,h7,h6⟩
set_option maxHeartbeats 8000000
set_option maxRecDepth 100000
theorem Om {ts:List Typ} {n:List UInt8} {ty:Typ} (h:gq ts n=some ty):ty∈ts:=by
 unfold gq at h
 exact List.mem_of_find?_eq_some h
theorem N4 {ts:List Typ} {l:List Atr} (ht:Ql ts) (h:InA ts l):∀ a∈l,a6 a.1:=fun a ha=>by
 obtain ⟨ty,h1,h2,_⟩:=h.2 a ha
 rw [← h2]
 exact ht.2.1 ty (Om h1)
theorem Og {ts:List Typ} {cs:List Cls} {l:List Atr} {n v:List UInt8} {capT capC cap:Option Nat} (hs:U2 ts cs) (hl:VL l) (hn:a6 n) {L:List Blk} {K:AV→List Blk→Prop} (h:K (.bool true) L) :
   af Tryz.prog 8 [.agg [.sl (b9 ts) ts.length capT,.sl (ft cs) cs.length capC],.sl (a7 l) l.length cap,.agg [.str n,.str v]] L K:=by
 replace h:=hid h
 obtain ⟨fb,hfb⟩:∃ b,Pt l=b:=⟨_,rfl⟩
 have kk1:Hid (∀ {L:List Blk} {K:AV→List Blk→Prop},K (.bool true) L→af Tryz.prog 22 [] L K):=hid fun q=>Mv q
 have kk2:Hid (∀ {L:List Blk} {K:AV→List Blk→Prop},K (.bool fb) L→af Tryz.prog 9 [.sl (a7 l) l.length cap] L K):=hid fun q=>Vt hl.1 (fun a ha=>(hl.2 a ha).2) (by rw [hfb];exact q)
 refine ai aa6 (by simp [aa7]) ?_
 simp only [aa7,ar]
 refine wk ?_
 refine Q1 hs fun b hb=>?_
 cases b with
 | false =>
   refine sk ?_
   refine wk ?_
   exact ad rfl h.out
 | true =>
 have hts:=hb rfl
 cases fb with
 | false =>
   refine sk ?_
   refine wk ?_
   exact ad rfl h.out
 | true =>
 have hf:=Tg hfb
 obtain ⟨R,hR⟩:∃ R,wV ts [] l=R:=⟨_,rfl⟩
 have hv:∀ a∈l,a6 a.1∧a.2.length≤9000:=fun a ha=>⟨(hl.2 a ha).1,by have:=(hf.2 a ha).1;omega⟩
 have hR1:R.1.length≤1000000∧∀ a∈R.1,a.2.length≤1000000:=by
   have:=OZ (ts:=ts) (l:=l) (out:=[]) (i:=0) (Nat.le_refl _) (by simp) (fun a ha=>(hv a ha).2)
   rw [hR] at this
   exact ⟨by have:=this.1;omega,fun a ha=>by have:=this.2 a ha;omega⟩
 have kk3:Hid (∀ {L:List Blk} {K:AV→List Blk→Prop},K (.tup [.sl (a7 R.1) R.1.length none,.int .i64 R.2]) L→af Tryz.prog 11 [.agg [.sl (b9 ts) ts.length capT,.sl (ft cs) cs.length capC],.sl (a7 l) l.length cap] L K):=hid fun q=>Ra hts (by omega) hv hR q
 obtain ⟨vs,hvs⟩:∃ vs,eB R.1 n=vs:=⟨_,rfl⟩
 obtain ⟨hb',hhb⟩:∃ b,aas ts R.1 n v=b:=⟨_,rfl⟩
 by_cases h5:(5000:Int)<(v.length:Int)
 · refine sk ?_
   refine wk ?_
   exact ad rfl h.out
 by_cases h0:R.2=0
 rotate_left
 · refine sk ?_
   refine wk ?_
   exact ad rfl h.out
 have hin:InA ts R.1:=by rw [← hR];exact aad ⟨List.Pairwise.nil,fun a ha=>by cases ha⟩ (by rw [hR];exact h0)
 have hz:∀ a∈R.1,a6 a.1∧a.2.length≤1000000:=fun a ha=>⟨N4 hts hin a ha,hR1.2 a ha⟩
 have hvl:vs.length≤1000000:=by rw [← hvs];exact JH hR1.2
 have kk4:Hid (∀ {L:List Blk} {K:AV→List Blk→Prop} {f:Nat} (q:K (xP vs) L) (hf:f=28∨f=29:=by decide),af Tryz.prog f [.sl (a7 R.1) R.1.length none,.str n] L K):=by
   refine @hid _ ?_
   intro L K f q hf
   rcases hf with rfl|rfl
   · exact aaE hR1.1 hin.1 hz hn (by rw [hvs];exact q)
   · exact Lz hR1.1 hz hn (by rw [hvs];exact q)
 have kk5:Hid (∀ {L:List Blk} {K:AV→List Blk→Prop},K (.bool true) L→af Tryz.prog 25 [.sl [.str [],xP vs] 1 (some 1),.sl [.str [],xP vs] 1 (some 1)] L K):=hid fun q=>M6 (l:=[([],vs)]) (cap:=some 1) (cap':=some 1) (by simp) (by simpa using hvl) q
 have kk6:Hid (∀ {L:List Blk} {K:AV→List Blk→Prop},K (.bool hb') L→af Tryz.prog 30 [.agg [.sl (b9 ts) ts.length capT,.sl (ft cs) cs.length capC],.sl (a7 R.1) R.1.length none,.str n,.str v] L K):=hid fun q=>aaD hts hin hR1.1 hR1.2 hn (by rw [hhb];exact q)
 have kk7:Hid (∀ {L:List Blk} {K:AV→List Blk→Prop},K (.bool hb') L→af Tryz.prog 31 [.agg [.sl (b9 ts) ts.length capT,.sl (ft cs) cs.length capC],.sl (a7 R.1) R.1.length none,.str n,.str v] L K):=hid fun q=>V0 hts hR1.1 hz hn (by rw [hhb];exact q)
 clear hb hf hR hv hvs hhb hR1 hz hin hts
 refine sk ?_
 refine wk ?_
 exact ad rfl h.out
set_option maxHeartbeats 8000000
set_option maxRecDepth 100000
theorem N2 {P:Program} {t e:TypeId} {X:Type} {ec:X→List AV} {ok:X→Prop} (ht:P.underlying t=some (.array 2 e)) (he:RdU P e ec ok) (h1:P.cellsOf e=1) (h2:P.cellsOf t=2) :
   RdU P t (fun y:X×X=>ec y.1++ec y.2) (fun y=>ok y.1∧ok y.2):=fun H enc w fuel cs x hx hb=>by
 obtain ⟨xs,m,_,rfl,hl,hlen,hf⟩:=DataW.trod_array ht hx
 rw [h2] at hl
 rw [h1] at hf
 simp only [Rows.uptoBulk] at hb
 match xs,hlen,cs,hl with
 | [p,q],_,[a,b],_ =>
   have f0:=hf 0 (by omega)
   have f1:=hf 1 (by omega)
   simp only [Nat.zero_mul,Nat.one_mul,List.drop_zero,List.take_succ_cons,List.take_zero,List.drop_succ_cons,List.getElem?_cons_zero,List.getElem?_cons_succ] at f0 f1
   simp only [List.map_cons,List.map_nil,Rows.uptoBulkAll] at hb
   obtain ⟨y,hy,e1⟩:=he H enc w m _ _ f0 (by omega)
   obtain ⟨z,hz,e2⟩:=he H enc w m _ _ f1 (by omega)
   exact ⟨(y,z),⟨hy,hz⟩,e1.append e2⟩
theorem Of:RdU Tryz.prog 58 (fun y:List UInt8×List UInt8=>[.str y.1,.str y.2]) (fun y=>a6 y.1) :=
 (N2 Tryz.underlying58 (AY Tryz.underlying9) (by kernel_rfl) (by kernel_rfl)).map fun y hy=>⟨y,rch hy.1,rfl⟩
end Go.Proofs.YtohflefnbajajaaGreatDoor.Av
