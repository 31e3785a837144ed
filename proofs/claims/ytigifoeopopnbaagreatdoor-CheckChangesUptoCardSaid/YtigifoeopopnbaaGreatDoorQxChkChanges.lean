/- Joined texts of the walk, made small by a program. -/
import Derived.Test.YtigifoeopopnbaaGreatDoorQk4
import Derived.Test.YtigifoeopopnbaaGreatDoorRows
import Derived.KernelRfl
import Derived.Test.YtigifoeopopnbaaGreatDoorQk23
import Derived.Test.YtigifoeopopnbaaGreatDoorQk24
import Derived.Test.YtigifoeopopnbaaGreatDoorQk20
import Derived.Test.YtigifoeopopnbaaGreatDoorQk18
import Derived.Test.YtigifoeopopnbaaGreatDoorQk12
import Derived.Test.YtigifoeopopnbaaGreatDoorQk19
import Derived.Test.YtigifoeopopnbaaGreatDoorQk25
set_option linter.unusedSimpArgs false
set_option linter.unusedVariables false
set_option maxRecDepth 100000
namespace Go.Proofs.YtigifoeopopnbaaGreatDoor.Av
open Go
variable {L:List Blk} {K:aef}
def ah0:LSO:=[Az 3 0,Ab 6 0]
def ahZ:LSO:=[An 12 2 3,Aa 13 1,o1 14 (.call 22 [(tm 13),(.av (.str [111,98,106,101,99,116,67,108,97,115,115]))]),Am 15 23 12 14,Aa 11 15,Ar 16 11,As 17 11,Aa 7 16,
 Aa 8 17]
def ahY:LSO:=[An 19 2 3,Aa 20 2,o1 21 (.call 22 [(tm 20),(.av (.str [111,98,106,101,99,116,67,108,97,115,115]))]),Am 22 23 19 21,Aa 18 22,Ar 23 18,As 24 18,Aa 9 23,
 Aa 10 24]
def ahX:LSO:=[Aa 25 7,Aa 26 9,o1 27 (.bin .neq (tm 25) (tm 26)),Aa 28 27,.grp none 28 false
 [Al 29 28 8,Al 30 28 10,og 31 28 false (.eqk true .bool (tm 29) (tm 30))]
 32 (tm 31)]
def ahW:LSO:=[Ab 6 69]
def ahV:LSO:=[Ab 6 0]
def ahv:aV:=⟨33,(.seq (.sreg ah0 [])
 (.seq (.sdreg ahZ [(.read 0 0),.pure,(.read 0 0),(.read 0 0),.pure,.pure,.pure,.pure] C0)
 (.seq (.sdreg ahY [(.read 0 0),.pure,(.read 0 0),(.read 0 0),.pure,.pure,.pure,.pure] C0)
 (.seq (.seq (.sreg ahX Cm)
 (.cond (tm 32) (.seq (.sreg ahW [])
 .ret)
 .skip))
 (.seq (.sreg ahV [])
 .ret))))),[(.tmp 6)]⟩
attribute [push_cast] ah0 ahZ ahY ahX ahW ahV
theorem ahz:aX Tryz.prog (fun _ _=>1) 15=some ahv.raw:=by kernel_rfl
attribute [push_cast] ahv
def ahU:LSO:=[Az 3 0,Ab 6 0]
def ahT:LSO:=[An 12 2 3,Aa 13 1,o1 14 (.call 29 [(tm 13),(.av (.str [111,98,106,101,99,116,99,108,97,115,115]))]),Am 15 30 12 14,Aa 11 15,Ar 16 11,As 17 11,Aa 7 16,
 Aa 8 17]
def ahS:LSO:=[An 19 2 3,Aa 20 2,o1 21 (.call 29 [(tm 20),(.av (.str [111,98,106,101,99,116,99,108,97,115,115]))]),Am 22 30 19 21,Aa 18 22,Ar 23 18,As 24 18,Aa 9 23,
 Aa 10 24]
def ahR:LSO:=[Aa 25 8,Aa 26 10,o1 27 (.eqk true .bool (tm 25) (tm 26)),Aa 28 27,.grp none 28 false
 [Al 29 28 7,Al 30 28 9,og 31 28 false (.bin .neq (tm 29) (tm 30))]
 32 (tm 31)]
def ahQ:LSO:=[Ab 6 69]
def ahP:LSO:=[Ab 6 0]
def ahu:aV:=⟨33,(.seq (.sreg ahU [])
 (.seq (.sdreg ahT [(.read 0 0),.pure,(.read 0 0),(.read 0 0),.pure,.pure,.pure,.pure] C0)
 (.seq (.sdreg ahS [(.read 0 0),.pure,(.read 0 0),(.read 0 0),.pure,.pure,.pure,.pure] C0)
 (.seq (.seq (.sreg ahR Cm)
 (.cond (tm 32) (.seq (.sreg ahQ [])
 .ret)
 .skip))
 (.seq (.sreg ahP [])
 .ret))))),[(.tmp 6)]⟩
attribute [push_cast] ahU ahT ahS ahR ahQ ahP
theorem ahy:aX Tryz.prog (fun _ _=>1) 16=some ahu.raw:=by kernel_rfl
attribute [push_cast] ahu
def ahJ:LSO:=[Az 3 0,Ag 6]
def ahI:LSO:=[An 12 2 3,Aa 13 1,Am 14 6 12 13,Aa 11 14,Ar 15 11,As 16 11,Aa 7 15,Aa 8 16]
def ahH:LSO:=[An 18 2 3,Aa 19 2,Am 20 6 18 19,Aa 17 20,Ar 21 17,As 22 17,Aa 9 21,Aa 10 22]
def ahG:LSO:=[Aa 23 8,Aw 24 23,Aa 25 24,.grp none 25 false
 [Al 26 25 10,Bg 27 25 26]
 28 (tm 27)]
def ahF:LSO:=[o1 29 (.call 8 []),Aa 6 29]
def ahE:LSO:=[o1 30 (.call 8 []),Aa 31 30,.grp none 31 true
 [AX 32 31 2 3,Ae 33 31 7,Ae 34 31 9,Bn 35 31 15 32 33 34,AX 36 31 2 3,Ae 37 31 7,Ae 38 31 9,Bn 39 31 16 36 37 38,B4 40 31 35 39]
 41 (tm 40),Aa 42 41,.grp none 42 true
 [AX 43 42 2 3,Ae 44 42 7,Ae 45 42 7,Bn 46 42 15 43 44 45,AL 47 42 46 0]
 48 (tm 47),Aa 6 48]
def ahx:aV:=⟨49,(.seq (.sreg ahJ [])
 (.seq (.sreg ahI Cu)
 (.seq (.sreg ahH Cu)
 (.seq (.seq (.sreg ahG Cl)
 (.cond (tm 28) (.seq (.sreg ahF Cj)
 .ret)
 .skip))
 (.seq (.sdreg ahE [(.read 0 0),.pure,(.read 0 0),.pure,.pure,(.read 0 0),(.read 0 0),.pure,.pure,(.read 0 0),.pure,.pure,.pure,(.read 0 0),.pure,.pure] Co)
 .ret))))),[(.tmp 6)]⟩
attribute [push_cast] ahJ ahI ahH ahG ahF ahE
theorem ah4:aX Tryz.prog (fun _ _=>1) 5=some ahx.raw:=by kernel_rfl
attribute [push_cast] ahx
set_option maxHeartbeats 8000000
set_option maxRecDepth 100000
def aiv (cs:List Cls) (a b:List Atr):Int:=if Lh cs (bu a ocS)=Lh cs (bu b ocS) then 0 else 69
theorem aix {x y:Option (List UInt8)}:((!decide (x.getD []=y.getD [])) || (!decide (x.isSome=y.isSome))) = !decide (x=y):=by
 cases x<;>cases y<;>simp
theorem aiy {x y:Option (List UInt8)}:((!decide (x.isSome=y.isSome)) || (!decide (x.getD []=y.getD []))) = !decide (x=y):=by
 rw [<- aix,Bool.or_comm]
theorem ait {ts:List Typ} {cs:List Cls} {capT capC cap capB:Option Nat} {l b:List Atr} (hts:LI ts) (hc:ue cs) (hf:Pv ts l) (hg:Pv ts b) (h:K (.int .i64 (aiv cs l b)) L) :
  aee 15 [.agg [.sl (aW ts) ts.length capT,.sl (bE cs) cs.length capC],.sl (bh l) l.length cap,.sl (bh b) b.length capB] L K:=by
 unfold aiv at h;obtain ⟨SV,hSV⟩:=aea (bu l ocS);obtain ⟨SW,hSW⟩:=aea (bu b ocS);have hvs:=hf.vals ocS;have hws:=hg.vals ocS;rw [hSV] at hvs h;rw [hSW] at hws h;have kk1:Hid (Ctr Tryz.prog 22 [.sl (bh l) l.length cap,.str [111,98,106,101,99,116,67,108,97,115,115]] (iI SV)):=@hid _ (by
  intro L K q;have hreach:∀ a∈l,am a.1:=fun a ha=>(Ig hts hf.i ha).1
  have hn:am [111,98,106,101,99,116,67,108,97,115,115]:=by unfold am;decide
  refine ac9 (by have:=hf.n;omega) hf.i.1 (fun a ha=>⟨hreach a ha,by have:=hf.v a ha;omega⟩) hn ?_;rw [Qm Zu,hSV];exact q)
 have kk2:Hid (Ctr Tryz.prog 22 [.sl (bh b) b.length capB,.str [111,98,106,101,99,116,67,108,97,115,115]] (iI SW)):=@hid _ (by
  intro L K q;have hreach:∀ a∈b,am a.1:=fun a ha=>(Ig hts hg.i ha).1
  have hn:am [111,98,106,101,99,116,67,108,97,115,115]:=by unfold am;decide
  have hf:=hg;refine ac9 (by have:=hf.n;omega) hf.i.1 (fun a ha=>⟨hreach a ha,by have:=hf.v a ha;omega⟩) hn ?_;rw [Qm Zu,hSW];exact q)
 have kk3:Hid (∀ {c:Option Nat} {L:List Blk} {K:aef},K (RZ (Lh cs SV)) L->aee 23 [.agg [.sl (aW ts) ts.length capT,.sl (bE cs) cs.length capC],.sl (SV.map AV.str) SV.length c] L K):=@hid _ (by intro c L K q;exact ZK hc hvs.1 hvs.2 q);have kk4:Hid (∀ {c:Option Nat} {L:List Blk} {K:aef},K (RZ (Lh cs SW)) L->aee 23 [.agg [.sl (aW ts) ts.length capT,.sl (bE cs) cs.length capC],.sl (SW.map AV.str) SW.length c] L K):=@hid _ (by intro c L K q;exact ZK hc hws.1 hws.2 q);obtain ⟨x,hx⟩:=aea (Lh cs SV);obtain ⟨y,hy⟩:=aea (Lh cs SW);rw [hx] at kk3 h;rw [hy] at kk4 h;obtain ⟨TA,hTA⟩:=aea (AV.sl (aW ts) ts.length capT);obtain ⟨CA,hCA⟩:=aea (AV.sl (bE cs) cs.length capC);have hto:TA.one=true:=by rw [<- hTA];rfl
 have hco:CA.one=true:=by rw [<- hCA];rfl
 rw [hTA,hCA] at kk3 kk4 ⊢;obtain ⟨DV,hDV⟩:=aea (SV.map AV.str);obtain ⟨DW,hDW⟩:=aea (SW.map AV.str);simp only [iI] at kk1 kk2;rw [hDV] at kk1 kk3;rw [hDW] at kk2 kk4;have he:=aix (x:=x) (y:=y);obtain ⟨r,hr⟩:=aea (decide (x=y));have h':K (.int .i64 (if r=true then 0 else 69)) L:=by
  rw [<- hr];by_cases c:x=y
  ·rw [if_pos c] at h;rw [if_pos (decide_eq_true c)];exact h
  ·rw [if_neg c] at h;rw [if_neg (by simpa using c)];exact h
 rw [hr] at he;unfold RZ at kk3 kk4;obtain ⟨x1,hx1⟩:=aea (x.getD []);obtain ⟨x2,hx2⟩:=aea (x.isSome);obtain ⟨y1,hy1⟩:=aea (y.getD []);obtain ⟨y2,hy2⟩:=aea (y.isSome);rw [hx1,hx2] at kk3 he;rw [hy1,hy2] at kk4 he;replace h':=hid h';clear h hx hy hSV hSW hvs hws hDV hDW hTA hCA hr hx1 hx2 hy1 hy2 hf hg hts hc;by_cases c1:x1=y1
 ·subst c1;by_cases c2:x2=y2
  ·subst c2;obtain rfl:r=true:=by simpa using he
   replace he:=hid he;refine aed ahz ?_;exact ab rfl h'.out
  ·obtain rfl:r=false:=by simpa [c2] using he
   replace he:=hid he;have c3:(!decide (x2=y2))=true:=by simpa using c2
   refine aed ahz ?_;exact ab rfl h'.out
 ·obtain rfl:r=false:=by simpa [c1] using he
  replace he:=hid he;have c3:(!decide (x1=y1))=true:=by simpa using c1
  refine aed ahz ?_
  all_goals exact ab rfl h'.out
theorem aiu {ts:List Typ} {cs:List Cls} {capT capC cap capB:Option Nat} {l b:List Atr} (hts:LI ts) (hc:ue cs) (hf:Pv ts l) (hg:Pv ts b) (h:K (.int .i64 (aiv cs l b)) L) :
  aee 16 [.agg [.sl (aW ts) ts.length capT,.sl (bE cs) cs.length capC],.sl (bh l) l.length cap,.sl (bh b) b.length capB] L K:=by
 unfold aiv at h;obtain ⟨SV,hSV⟩:=aea (bu l ocS);obtain ⟨SW,hSW⟩:=aea (bu b ocS);have hvs:=hf.vals ocS;have hws:=hg.vals ocS;rw [hSV] at hvs h;rw [hSW] at hws h;have kk1:Hid (Ctr Tryz.prog 29 [.sl (bh l) l.length cap,.str [111,98,106,101,99,116,99,108,97,115,115]] (iI SV)):=@hid _ (by
  intro L K q;have hreach:∀ a∈l,am a.1:=fun a ha=>(Ig hts hf.i ha).1
  have hn:am [111,98,106,101,99,116,99,108,97,115,115]:=by unfold am;decide
  refine N9 (by have:=hf.n;omega) (fun a ha=>⟨hreach a ha,by have:=hf.v a ha;omega⟩) hn ?_;rw [show ∀ l:List Atr,bu l [111,98,106,101,99,116,99,108,97,115,115]=bu l ocS from fun _=>rfl,hSV];exact q)
 have kk2:Hid (Ctr Tryz.prog 29 [.sl (bh b) b.length capB,.str [111,98,106,101,99,116,99,108,97,115,115]] (iI SW)):=@hid _ (by
  intro L K q;have hreach:∀ a∈b,am a.1:=fun a ha=>(Ig hts hg.i ha).1
  have hn:am [111,98,106,101,99,116,99,108,97,115,115]:=by unfold am;decide
  have hf:=hg;refine N9 (by have:=hf.n;omega) (fun a ha=>⟨hreach a ha,by have:=hf.v a ha;omega⟩) hn ?_;rw [show ∀ l:List Atr,bu l [111,98,106,101,99,116,99,108,97,115,115]=bu l ocS from fun _=>rfl,hSW];exact q)
 have kk3:Hid (∀ {c:Option Nat} {L:List Blk} {K:aef},K (RZ (Lh cs SV)) L->aee 30 [.agg [.sl (aW ts) ts.length capT,.sl (bE cs) cs.length capC],.sl (SV.map AV.str) SV.length c] L K):=@hid _ (by intro c L K q;exact abj hc hvs.1 hvs.2 q);have kk4:Hid (∀ {c:Option Nat} {L:List Blk} {K:aef},K (RZ (Lh cs SW)) L->aee 30 [.agg [.sl (aW ts) ts.length capT,.sl (bE cs) cs.length capC],.sl (SW.map AV.str) SW.length c] L K):=@hid _ (by intro c L K q;exact abj hc hws.1 hws.2 q);obtain ⟨x,hx⟩:=aea (Lh cs SV);obtain ⟨y,hy⟩:=aea (Lh cs SW);rw [hx] at kk3 h;rw [hy] at kk4 h;obtain ⟨TA,hTA⟩:=aea (AV.sl (aW ts) ts.length capT);obtain ⟨CA,hCA⟩:=aea (AV.sl (bE cs) cs.length capC);have hto:TA.one=true:=by rw [<- hTA];rfl
 have hco:CA.one=true:=by rw [<- hCA];rfl
 rw [hTA,hCA] at kk3 kk4 ⊢;obtain ⟨DV,hDV⟩:=aea (SV.map AV.str);obtain ⟨DW,hDW⟩:=aea (SW.map AV.str);simp only [iI] at kk1 kk2;rw [hDV] at kk1 kk3;rw [hDW] at kk2 kk4;have he:=aiy (x:=x) (y:=y);obtain ⟨r,hr⟩:=aea (decide (x=y));have h':K (.int .i64 (if r=true then 0 else 69)) L:=by
  rw [<- hr];by_cases c:x=y
  ·rw [if_pos c] at h;rw [if_pos (decide_eq_true c)];exact h
  ·rw [if_neg c] at h;rw [if_neg (by simpa using c)];exact h
 rw [hr] at he;unfold RZ at kk3 kk4;obtain ⟨x1,hx1⟩:=aea (x.getD []);obtain ⟨x2,hx2⟩:=aea (x.isSome);obtain ⟨y1,hy1⟩:=aea (y.getD []);obtain ⟨y2,hy2⟩:=aea (y.isSome);rw [hx1,hx2] at kk3 he;rw [hy1,hy2] at kk4 he;replace h':=hid h';clear h hx hy hSV hSW hvs hws hDV hDW hTA hCA hr hx1 hx2 hy1 hy2 hf hg hts hc;by_cases c1:x1=y1
 ·subst c1;by_cases c2:x2=y2
  ·subst c2;obtain rfl:r=true:=by simpa using he
   replace he:=hid he;refine aed ahy ?_;exact ab rfl h'.out
  ·obtain rfl:r=false:=by simpa [c2] using he
   replace he:=hid he;have c3:(!decide (x2=y2))=true:=by simpa using c2
   refine aed ahy ?_;exact ab rfl h'.out
 ·obtain rfl:r=false:=by simpa [c1] using he
  replace he:=hid he;have c3:(!decide (x1=y1))=true:=by simpa using c1
  refine aed ahy ?_
  all_goals exact ab rfl h'.out
theorem aiw {ts:List Typ} {cs:List Cls} {l m:List Atr} {capT capC cap capM:Option Nat} (hs:ab4 ts cs) (hl:adC l) (hm:adC m) (h:K (.bool true) L) :
  aee 5 [.agg [.sl (aW ts) ts.length capT,.sl (bE cs) cs.length capC],.sl (bh l) l.length cap,.sl (bh m) m.length capM] L K:=by
 replace h:=hid h;have kk1:Hid (Ctr Tryz.prog 8 [] (.bool true)):=hid fun q=>Yt q
 refine aed ah4 ?_;refine ac3 hs hl fun l' b hb=>?_
 refine sk ?_;refine wk ?_;refine ac3 hs hm fun m' c hc=>?_
 cases b with
 | false =>
   clear hb hc hs hl hm;refine sk ?_;refine wk ?_;exact ab rfl h.out
 | true =>
 cases c with
 | false =>
   clear hb hc hs hl hm;refine sk ?_;refine wk ?_;exact ab rfl h.out
 | true =>
 obtain ⟨hts,hcs,hf⟩:=hb rfl;obtain ⟨_,_,hg⟩:=hc rfl;obtain ⟨k,hk⟩:=aea (aiv cs l' m');have kk2:Hid (Ctr Tryz.prog 15 [.agg [.sl (aW ts) ts.length capT,.sl (bE cs) cs.length capC],.sl (bh l') l'.length none,.sl (bh m') m'.length none] (.int .i64 k)):=hid fun q=>ait hts hcs hf.ok hg.ok (by rw [hk];exact q)
 have kk3:Hid (Ctr Tryz.prog 16 [.agg [.sl (aW ts) ts.length capT,.sl (bE cs) cs.length capC],.sl (bh l') l'.length none,.sl (bh m') m'.length none] (.int .i64 k)):=hid fun q=>aiu hts hcs hf.ok hg.ok (by rw [hk];exact q)
 have kk4:Hid (Ctr Tryz.prog 15 [.agg [.sl (aW ts) ts.length capT,.sl (bE cs) cs.length capC],.sl (bh l') l'.length none,.sl (bh l') l'.length none] (.int .i64 0)):=hid fun q=>ait hts hcs hf.ok hf.ok (by rw [show aiv cs l' l'=0 by unfold aiv;exact if_pos rfl];exact q)
 clear hb hc hs hl hm hts hcs hf hg hk;refine sk ?_;refine wk ?_;exact ab rfl h.out
end Go.Proofs.YtigifoeopopnbaaGreatDoor.Av
