/- Joined texts of the walk, made small by a program. -/
import Derived.Test.YtobihfefmlgaoaaGreatRk25
import Derived.Test.YtobihfefmlgaoaaGreatRk17
import Derived.Test.YtobihfefmlgaoaaGreatRk23
import Derived.Test.YtobihfefmlgaoaaGreatRk15
set_option linter.unusedSimpArgs false
set_option linter.unusedVariables false
namespace Go.Proofs.YtobihfefmlgaoaaGreat.Av
open Go
set_option maxHeartbeats 8000000
set_option maxRecDepth 100000
theorem YE {s:List UInt8} {u:Upd} (hs:s.length<=1100000) (h:rdU s=(u,0)):dnM u.dn/\dnM u.to/\ov u:=by
 have he:rdU s=V7 s:=acG fun n u hw hu=>(To hs hw hu).2.2
 rw [he] at h;rcases hw:uN s with e|n
 ·rw [V7,hw] at h;exact absurd (congrArg Prod.snd h) (VZ hw)
 rw [ZN hw] at h;rcases hr:lJ n with _|v
 ·rw [hr] at h;have h:=congrArg Prod.snd h;exact absurd (show (4:Int)=0 from h) (by decide)
 rw [hr] at h;unfold aeo at h;simp only at h;split at h
 ·have h:=congrArg Prod.snd h;exact absurd (show (4:Int)=0 from h) (by decide)
 obtain rfl:v=u:=congrArg Prod.fst h;obtain ⟨b1,b2,b3⟩:=To hs hw (OR hr);obtain ⟨tg,dt,l⟩:=n;obtain ⟨t1,t2⟩:=W5 hr;exact ⟨⟨b1.1,fun r hm=>⟨b1.2 r hm,fun a ha=>by have:=t1 r hm a ha;omega⟩⟩,⟨b2.1,fun r hm=>⟨b2.2 r hm,fun a ha=>by have:=t2 r hm a ha;omega⟩⟩,b3⟩
theorem afK {s:List UInt8} (hs:s.length<=1100000):rdU s=V7 s:=acG fun n u hw hu=>(To hs hw hu).2.2
def YB (suf:List Rdn) (l:List aB) (s:List UInt8):Int×Int:=if (rdU s).2=0 then (if d8 suf l (rdU s).1.kind (rdU s).1.dn (rdU s).1.to=0 then (1,0) else (0,4)) else (0,(rdU s).2)
def Lf (suf:List Rdn) (l:List aB) (last:Int) (s:List UInt8):List aB×Int:=if (rdU s).2=0 then doT suf l last (rdU s).1.kind (rdU s).1.dn (rdU s).1.to (rdU s).1.attrs else (l,last)
section
variable {L:List Blk} {iv mn mi it:Nat} {nb bn:Int->Nat} {ck ci:Nat} {rs:List TKy} {suf:List Rdn} {last:Int} {l:List aB}
theorem aaQ {v:AV} (hv:v.one=true) {K:afC} (h:K (.tup [.int .i64 0,.int .i64 1]) L):afB 15 [.nilptr,v] L K:=by
 replace h:=hid h;refine acg gk ?_;exact af h.out
theorem acz {s:List UInt8} (hs:s.length<=1100000) (ht:TOk suf last l) (n23:mn≠mi) (hln:l.length<=900000) (hl0:0<=last) (hl1:last<=1000000) (hit:L[it]?=some (.cells [.ptr iv 0])) (hc:bu L iv mn mi nb bn ck ci rs suf last l)
  {cap:Option Nat} {K:afC}
  (h:∀ L' nb' bn' ck' ci' rs',bu L' iv mn mi nb' bn' ck' ci' rs' suf (Lf suf l last s).2 (Lf suf l last s).1->L'[it]?=some (.cells [.ptr iv 0])->aK (OfT iv mn mi nb l) L L'->K (.tup [.int .i64 (YB suf l s).1,.int .i64 (YB suf l s).2]) L') :
  afB 15 [.ptr it 0,.sl [.str s] 1 cap] L K:=by
 obtain ⟨⟨u,e⟩,hu⟩:∃ q,rdU s=q:=⟨_,rfl⟩;have kk1:Hid (Ctr Tryz.prog 37 [.str s] (.tup [.agg (dO u),.int .i64 e])):=@hid _ (by intro L K q;exact acD hs (by rw [hu];exact q));unfold Lf YB at h;rw [hu] at h;dsimp only at h;by_cases he:e=0;rotate_left
 ·rw [if_neg he,if_neg he] at h;have h1:=hid (h (L++[.cells (dO u)]) nb bn ck ci rs (hc.app _) (abD hit) (aK.app _ _));clear h hu hc ht hit;refine acg gk ?_;refine ah (fun m T' L'=>m=1/\T'=[(14,.int .i64 0),(13,.int .i64 1),(12,.sl [.str s] 1 cap),(1,.sl [.str s] 1 cap),(0,.ptr it 0)]/\L=L') (CutS (b:=ahn _)) ⟨rfl,rfl,rfl⟩ ?_;rintro _ _ _ ⟨rfl,rfl,rfl⟩;refine wk ?_;exact af h1.out
 subst he;rw [if_pos rfl,if_pos rfl] at h;obtain ⟨b1,b2,b3⟩:=YE hs hu;have hdb:=b1.b;have htb:=b2.b;obtain ⟨z,hz⟩:=aaR (d8 suf l u.kind u.dn u.to);rw [hz] at h;obtain ⟨P,hP⟩:∃ P:List Blk->Prop,(fun L2=>∃ nb' bn' ck' ci' rs',bu L2 iv mn mi nb' bn' ck' ci' rs' suf (doT suf l last u.kind u.dn u.to u.attrs).2 (doT suf l last u.kind u.dn u.to u.attrs).1/\L2[it]?=some (.cells [.ptr iv 0])/\aK (OfT iv mn mi nb l) L L2)=P:=⟨_,rfl⟩;have kD:Hid (∀ {K:afC},(∀ L2,Hid (L.length<=L2.length)->Hid (P L2)->K (.int .i64 z) L2)->afB 20 [.ptr it 0,.agg (dO u)] (L++[.cells (dO u)]) K):=@hid _ (by
  intro K q;have:=agz (L:=L++[.cells (dO u)]) (it:=it) ht n23 (by omega) hl0 hl1 (abD hit) (hc.app _) (k:=u.kind) hdb htb (v:=u.attrs) b3.1 (fun a ha=>(b3.2 a ha).2.1) (K:=K) fun L' nb' bn' ck' ci' rs' q1 q2 q3=>by
   rw [hz];exact q L' (hid (by have:=q3.len;simp at this;omega)) (hid (by rw [<- hP];exact ⟨nb',bn',ck',ci',rs',q1,q2,(aK.app L _).trans q3⟩))
  exact this)
 have h1:Hid (∀ L2,Hid (P L2)->K (.tup [.int .i64 (if z=0 then (1,0) else (0,4):Int×Int).1,.int .i64 (if z=0 then (1,0) else (0,4):Int×Int).2]) L2):=hid (by
  rw [<- hP];rintro L2 ⟨nb',bn',ck',ci',rs',q1,q2,q3⟩;exact h L2 nb' bn' ck' ci' rs' q1 q2 q3)
 clear h hu hc ht hit hz b1 b2 b3 hdb htb hP;refine acg gk ?_;refine ah (fun m T' L'=>(m=1/\T'=[(14,.int .i64 0),(13,.int .i64 1),(12,.sl [.str s] 1 cap),(1,.sl [.str s] 1 cap),(0,.ptr it 0)]/\L'=L)\/(m=0/\Hid (z=0)/\T'=[(14,.int .i64 1),(13,.int .i64 1),(12,.sl [.str s] 1 cap),(1,.sl [.str s] 1 cap),(0,.ptr it 0)]/\Hid (P L')/\Hid (L.length<=L'.length))) (CutS (b:=ahn _)) (.inl ⟨rfl,rfl,rfl⟩) ?_;rintro _ _ L' (⟨rfl,rfl,rfl⟩|⟨rfl,hz,rfl,hp,hle⟩)
 ·refine wk ?_;refine kD.out fun L2 q1 q2=>?_
  have h2:=hid (h1.out L2 q2);clear kD h1;by_cases hz:z=0
  ·subst hz;clear h2;refine wk ?_;exact aq _ _ _ (by omega) (CutL (b:=q1.out)) (.inr ⟨rfl,hid (by first|rfl|trivial),rfl,q2,q1⟩)
  ·rw [if_neg hz] at h2;refine wk ?_;exact af h2.out
 ·have h2:=hid (h1.out L' hp);have hz:=hz.out;subst hz;clear kD h1;refine wk ?_;exact af h2.out
end
theorem aaO {s:List UInt8} (hs:s.length<=1100000) {suf:List Rdn} {last:Int} {l:List aB} (ht:TOk suf last l) (hn:l.length<=900000) (hl0:0<=last) (hl1:last<=1000000) {rt:Nat} {c:Option Nat} {L:List Blk} (hL:L[rt]?=some (.cells [dnA suf,.sl (aA l) l.length c,.int .i64 last])) {cap:Option Nat} {K:afC}
  (h:∀ L' c',L'[rt]?=some (.cells [dnA suf,.sl (aA (Lf suf l last s).1) (Lf suf l last s).1.length c',.int .i64 (Lf suf l last s).2])->aK (fun i=>i=rt) L L'->K (.tup [.int .i64 (YB suf l s).1,.int .i64 (YB suf l s).2]) L') :
  afB 17 [.ptr rt 0,.sl [.str s] 1 cap] L K:=by
 obtain ⟨⟨u,e⟩,hu⟩:∃ q,rdU s=q:=⟨_,rfl⟩;have kk1:Hid (Ctr Tryz.prog 39 [.str s] (.tup [.agg (dO u),.int .i64 e])):=@hid _ (by intro L K q;exact aeh hs (by rw [<- afK hs,hu];exact q));unfold Lf YB at h;rw [hu] at h;dsimp only at h;by_cases he:e=0;rotate_left
 ·rw [if_neg he,if_neg he] at h;have h1:=hid (h (L++[.cells (dO u)]) c (abD hL) (aK.app _ _));clear h hu ht hL;refine acg uj ?_;refine ah (fun m T' L'=>m=1/\T'=[(12,.int .i64 0),(11,.int .i64 1),(10,.sl [.str s] 1 cap),(1,.sl [.str s] 1 cap),(0,.ptr rt 0)]/\L=L') (CutS (b:=ahn _)) ⟨rfl,rfl,rfl⟩ ?_;rintro _ _ _ ⟨rfl,rfl,rfl⟩;refine wk ?_;exact af h1.out
 subst he;rw [if_pos rfl,if_pos rfl] at h;obtain ⟨b1,b2,b3⟩:=YE hs hu;obtain ⟨z,hz⟩:=aaR (d8 suf l u.kind u.dn u.to);rw [hz] at h;obtain ⟨P,hP⟩:∃ P:List Blk->Prop,(fun L2=>∃ c',L2[rt]?=some (.cells [dnA suf,.sl (aA (doT suf l last u.kind u.dn u.to u.attrs).1) (doT suf l last u.kind u.dn u.to u.attrs).1.length c',.int .i64 (doT suf l last u.kind u.dn u.to u.attrs).2])/\aK (fun i=>i=rt) L L2)=P:=⟨_,rfl⟩;have kD:Hid (∀ {K:afC},(∀ L2,Hid (L.length<=L2.length)->Hid (P L2)->K (.int .i64 z) L2)->afB 21 [.ptr rt 0,.agg (dO u)] (L++[.cells (dO u)]) K):=@hid _ (by
  intro K q;have:=agD (L:=L++[.cells (dO u)]) ht hn hl0 hl1 (c:=c) (rt:=rt) (abD hL) b1 b2 (k:=u.kind) (v:=u.attrs) b3.1 (fun a ha=>(b3.2 a ha).2.1) (K:=K) fun L' c' q1 q2=>by
   rw [hz];exact q L' (hid (by have:=q2.len;simp at this;omega)) (hid (by rw [<- hP];exact ⟨c',q1,(aK.app L _).trans q2⟩))
  exact this)
 have h1:Hid (∀ L2,Hid (P L2)->K (.tup [.int .i64 (if z=0 then (1,0) else (0,4):Int×Int).1,.int .i64 (if z=0 then (1,0) else (0,4):Int×Int).2]) L2):=hid (by
  rw [<- hP];rintro L2 ⟨c',q1,q2⟩;exact h L2 c' q1 q2)
 clear h hu hL ht hz b1 b2 b3 hP;refine acg uj ?_;refine ah (fun m T' L'=>(m=1/\T'=[(12,.int .i64 0),(11,.int .i64 1),(10,.sl [.str s] 1 cap),(1,.sl [.str s] 1 cap),(0,.ptr rt 0)]/\L'=L)\/(m=0/\Hid (z=0)/\T'=[(12,.int .i64 1),(11,.int .i64 1),(10,.sl [.str s] 1 cap),(1,.sl [.str s] 1 cap),(0,.ptr rt 0)]/\Hid (P L')/\Hid (L.length<=L'.length))) (CutS (b:=ahn _)) (.inl ⟨rfl,rfl,rfl⟩) ?_;rintro _ _ L' (⟨rfl,rfl,rfl⟩|⟨rfl,hz,rfl,hp,hle⟩)
 ·refine wk ?_;refine kD.out fun L2 q1 q2=>?_
  have h2:=hid (h1.out L2 q2);clear kD h1;by_cases hz:z=0
  ·subst hz;clear h2;refine wk ?_;exact aq _ _ _ (by omega) (CutL (b:=q1.out)) (.inr ⟨rfl,hid (by first|rfl|trivial),rfl,q2,q1⟩)
  ·rw [if_neg hz] at h2;refine wk ?_;exact af h2.out
 ·have h2:=hid (h1.out L' hp);have hz:=hz.out;subst hz;clear kD h1;refine wk ?_;exact af h2.out
variable {L:List Blk} {K:afC}
set_option maxHeartbeats 8000000
set_option maxRecDepth 100000
theorem af4 {Q:List Atr->Prop} {suf:List Rdn} {l:List aB} {last k:Int} {dn tn:List Rdn} {v:List Atr} (hl:∀ x∈l,Q x.av) (hv:Q v):∀ x∈(doT suf l last k dn tn v).1,Q x.av:=by
 have hcha:∀ (l:List aB) (i:Int),(∀ x∈l,Q x.av)->∀ x∈rK l i v,Q x.av:=fun l i h x hx=>by
  obtain ⟨y,hy,rfl⟩:=ahs.1 hx;split
  ·exact hv
  ·exact h y hy
 have hren:∀ x∈mV l dn tn,Q x.av:=fun x hx=>by
  obtain ⟨y,hy,rfl⟩:=ahs.1 hx;split
  ·exact hl y hy
  ·exact hl y hy
 unfold doT;split
 ·exact hl
 split
 ·intro x hx;rcases ahr.1 hx with hx|hx
  ·exact hl x hx
  ·rw [ahI.1 hx];exact hv
 split
 ·intro x hx;exact hl x (ah5.1 hx).1
 split
 ·exact hcha l _ hl
 ·exact hcha _ _ hren
def avS (v:List Atr):Prop:=ov ⟨1,[],[],v⟩
theorem avS.ok {v:List Atr} (h:avS v):ae2 v:=⟨h.1,fun a ha=>(h.2 a ha).2.1⟩
theorem aaS {suf:List Rdn} {last:Int} {l:List aB} (h:TOk suf last l) (hl:0<=last) {s:List UInt8} (hs:s.length<=1100000) (ha:∀ x∈l,avS x.av) :
  TOk suf (Lf suf l last s).2 (Lf suf l last s).1/\last<=(Lf suf l last s).2/\(Lf suf l last s).2<=last+1/\(Lf suf l last s).1.length<=l.length+1/\∀ x∈(Lf suf l last s).1,avS x.av:=by
 unfold Lf;split
 ·rename_i e
  obtain ⟨d1,d2,d3,d4⟩:=h.done hl (rdU s).1.kind (rdU s).1.dn (rdU s).1.to (rdU s).1.attrs;exact ⟨d1,d2,d3,d4,af4 ha (YE hs (u:=(rdU s).1) (by rw [<- e])).2.2⟩
 ·exact ⟨h,ajn _,by omega,Nat.le_succ _,ha⟩
theorem acJ:∀ {h:Nat} {n:Nd},(cM h n).2≠0->(cM h n).1=[]
 | 0,.mk t d ks,e=>by
   rw [cM] at e ⊢;split
   ·rfl
   ·rename_i h1;rw [if_neg h1] at e;exact absurd rfl e
 | h+1,.mk t d ks,e=>by
   rw [cM] at e ⊢;split
   ·rfl
   ·rename_i h1
    rw [if_neg h1] at e;split
    ·rfl
    ·rename_i h2;rw [if_neg h2] at e;exact absurd rfl e
theorem aar (u:Upd):(wrU u).1.length<=1048581:=by
 unfold wrU;split
 ·simp
 split
 ·simp
 split
 ·simp
 by_cases h:(cM 4 (uu u.kind (prS u.dn).1 (prS u.to).1 u.attrs)).2=0
 ·exact Qq _ _ h
 ·rw [acJ h];simp
theorem V4 {l:List (List UInt8)} {k:Nat} (h:k<l.length):(l.map AV.str).getD k .undef=.str (l.getD k []):=by
 rw [ahE,ahE];simp [h]
theorem Yf.app {L:List Blk} {it iv mn mi rt:Nat} {nb bn:Int->Nat} {ck ci:Nat} {rs:List TKy} {c:Option Nat} {suf:List Rdn} {last:Int} {l:List aB} (h:Yf L it iv mn mi rt nb bn ck ci rs c suf last l) (X:List Blk):Yf (L++X) it iv mn mi rt nb bn ck ci rs c suf last l :=
 ⟨h.ok,h.code.app X,abD h.it,abD h.rt,h.ne,h.l0,h.l1,h.len,h.av⟩
theorem bu.noSp {L:List Blk} {iv mn mi:Nat} {nb bn:Int->Nat} {ck ci:Nat} {rs:List TKy} {suf:List Rdn} {last:Int} {l:List aB} (h:bu L iv mn mi nb bn ck ci rs suf last l) {j n s:Nat} (hj:L[j]?=some (.spare n s)):¬ OfT iv mn mi nb l j:=by
 rintro (e|e|e|⟨x,hx,e⟩)
 ·rw [e,h.v] at hj;simp at hj
 ·rw [e,h.n] at hj;simp at hj
 ·rw [e,h.i] at hj;simp at hj
 ·rw [e,h.nd x hx] at hj;simp at hj
theorem al3:YB exD [] exS=(0,4):=by
 unfold YB;rw [af1];rw [if_pos rfl,if_neg (show ¬ d8 exD ([]:List aB) exU.kind exU.dn exU.to=0 by rw [show d8 exD ([]:List aB) exU.kind exU.dn exU.to=32 by kernel_rfl];decide)]
theorem al1:afB 12 [] [] fun v _=>v=.bool true:=by
 have kk1:Hid (Ctr Tryz.prog 34 [.agg [.int .i64 2,.sl [.sl [.str [100,99],.str [122]] 1 (some 1)] 1 (some 1),.sl [] 0 (some 0),.sl [] 0 (some 0)]] (.tup [.str exS,.int .i64 0])):=@hid _ (by
  intro L K q;refine dQ ?_;have:=VY (u:=exU) (L:=L) (K:=K) adn ⟨by simp [exU],by simp [exU]⟩ ⟨by simp [exU],by simp [exU]⟩ (by rw [Zh];exact q);exact this)
 have kT:Hid (∀ {L:List Blk} {K:afC},L=[]->(∀ L1,Hid (∃ nb bn ck ci rs,bu L1 2 0 1 nb bn ck ci rs exD 0 [])->Hid (L1[3]?=some (.cells [.ptr 2 0]))->K (.tup [.ptr 3 0,.int .i64 0]) L1)->afB 13 [.sl [.sl [.str [100,99],.str [122]] 1 (some 1)] 1 (some 1)] L K):=@hid _ (by
  rintro _ K rfl q;refine dQ ?_;exact V3 (d:=exD) (cap:=none) (L:=[]) (K:=K) adn (fun e=>absurd af2 e) (fun e=>absurd e (by simp [exD])) fun _ _=>q _ (hid ⟨_,_,_,_,_,bu.start [] exD⟩) (hid rfl))
 have kR:Hid (∀ {L1:List Blk} {c:Option Nat} {K:afC},Hid (∃ nb bn ck ci rs,bu L1 2 0 1 nb bn ck ci rs exD 0 [])->Hid (L1[3]?=some (.cells [.ptr 2 0]))->(∀ L2,K (.tup [.int .i64 0,.int .i64 4]) L2)->afB 15 [.ptr 3 0,.sl [.str exS] 1 c] L1 K):=@hid _ (by
  rintro L1 c K ⟨nb,bn,ck,ci,rs,hc⟩ hi q;refine acz (by simp [exS]) (TOk.nil af2 (by simp [exD])) (by decide) (by simp) (by decide) (by decide) hi hc fun L' _ _ _ _ _ _ _ _=>?_
  rw [al3];exact q L')
 have hS:exS=[48,9,2,1,2,4,4,100,99,61,122]:=rfl;rw [hS] at kk1 kR;clear hS;refine acg Ri ?_;refine kT.out rfl fun L1 h1 h2=>?_
 refine sk ?_;refine wk ?_;refine kR.out h1 h2 fun L2=>?_
 refine sk ?_;refine wk ?_;exact ab (L2:=L2) rfl rfl
theorem al2 (h:K (.bool true) L):afB 12 [] L K:=al0 al1 h
theorem aaP {suf:List Rdn} (hs:XE suf/\∀ r∈suf,∀ a∈r,(a.1.length:Int)<=140737488351232) {us:List Upd} (hn:(us.length:Int)<=9223372036854775807) (hu:∀ u∈us,ae6 u) {ms:List (List UInt8)} (hmn:(ms.length:Int)<=9223372036854775807) {cp cm:Option Nat} {K:afC}
  (h:K (.bool true) []):afB 4 [dnA suf,.sl (us.flatMap dO) us.length cp,.sl (ms.map AV.str) ms.length cm] [] K:=by
 replace h:=hid h;have hsmall:∀ {L:List Blk} {c1 c2:Option Nat} {K:afC},K (.bool (smU ⟨0,suf,[],[]⟩)) L->afB 11 [.agg [.int .i64 0,dnA suf,.sl [] 0 c1,.sl [] 0 c2]] L K:=fun {L c1 c2 K} q=>acm hs.1 q
 obtain ⟨sm,hsm⟩:=aaR (smU ⟨0,suf,[],[]⟩);rw [hsm] at hsmall;have kk1:Hid (∀ {L:List Blk} {c1 c2:Option Nat} {K:afC},K (.bool sm) L->afB 11 [.agg [.int .i64 0,dnA suf,.sl [] 0 c1,.sl [] 0 c2]] L K):=@hid _ hsmall;have kk4:Hid (Ctr Tryz.prog 12 [] (.bool true)):=@hid _ (by intro L K q;exact al2 q);clear hsmall;obtain ⟨MS,hMS⟩:=aaR (ms.map AV.str);have hmat:=hid (fun k (q:k<ms.length)=>V4 q);have hmsl:MS.length=ms.length:=by rw [<- hMS];simp
 have hMS2:Hid (ms.map AV.str=MS):=hid hMS;rw [hMS] at hmat ⊢;by_cases hl:30<us.length
 ·have j2:(30:Int)<(us.length:Int):=by omega
  clear hu hs hn hmat;refine acg cz ?_;exact af h.out
 have j2:¬ (30:Int)<(us.length:Int):=by omega
 by_cases hl5:5<ms.length
 ·have j3:(5:Int)<(ms.length:Int):=by omega
  clear hu hs hn hmat;refine acg cz ?_;exact af h.out
 have j3:¬ (5:Int)<(ms.length:Int):=by omega
 cases sm with
 | false =>
   clear hu hs hn hmat;refine acg cz ?_;exact af h.out
 | true =>
 have hdm:dnM suf:=by
  simp only [smU,aht] at hsm;exact acn hsm.1 hs.2
 have hul:=aay us;obtain ⟨US,hUS⟩:=aaR (us.flatMap dO);rw [hUS] at hul ⊢;have hat:=hid (fun k (q:k<us.length)=>WX q);rw [hUS] at hat;have hu2:=hid hu;by_cases hok:OkD suf/\suf≠[];rotate_left
 ·obtain ⟨z1,hz1⟩:∃ z,(∀ {K:afC},K (.tup [.nilptr,.int .i64 z]) []->afB 13 [dnA suf] [] K)/\(∀ {K:afC},K (.tup [.nilptr,.int .i64 z]) []->afB 14 [dnA suf] [] K):=by
   by_cases ho:OkD suf
   ·have he:suf=[]:=by
     apply Classical.byContradiction;exact fun e=>hok ⟨ho,e⟩
    exact ⟨2,fun {K} q=>V3 hdm.b (fun e=>absurd ho e) (fun _=>q) (fun _ e=>absurd he e),fun {K} q=>Yz hdm (fun e=>absurd ho e) (fun _=>q) (fun _ e=>absurd he e)⟩
   ·exact ⟨(prS suf).2,fun {K} q=>V3 hdm.b (fun _=>q) (fun e=>absurd (e ▸ (by rfl:(prS []).2=0)) ho) (fun e=>absurd e ho),fun {K} q=>Yz hdm (fun _=>q) (fun e=>absurd (e ▸ (by rfl:(prS []).2=0)) ho) (fun e=>absurd e ho)⟩
  have kk2:Hid (∀ {K:afC},K (.tup [.nilptr,.int .i64 z1]) []->afB 13 [dnA suf] [] K):=@hid _ (fun {K} q=>hz1.1 q);have kk3:Hid (∀ {K:afC},K (.tup [.nilptr,.int .i64 z1]) []->afB 14 [dnA suf] [] K):=@hid _ (fun {K} q=>hz1.2 q);have kk5:Hid (Ctr Tryz.prog 15 [.nilptr,.sl MS ms.length cm] (.tup [.int .i64 0,.int .i64 1])):=@hid _ (by intro L K q;exact aaQ rfl q);clear hz1 hok hsm hs hu hdm hUS hmat;refine acg cz ?_
  all_goals exact af h.out
 obtain ⟨ho,hne⟩:=hok;have kT:Hid (∀ {K:afC},(∀ L1 it iv mn mi,Hid ((∃ nb bn ck ci rs,bu L1 iv mn mi nb bn ck ci rs suf 0 [])/\L1[it]?=some (.cells [.ptr iv 0])/\mn≠mi)->K (.tup [.ptr it 0,.int .i64 0]) L1)->afB 13 [dnA suf] [] K):=@hid _ (by
  intro K q;exact V3 hdm.b (fun e=>absurd ho e) (fun e=>absurd e hne) fun _ _=>q _ _ 2 0 1 (hid ⟨⟨_,_,_,_,_,bu.start [] suf⟩,rfl,by omega⟩))
 have kR:Hid (∀ {L1:List Blk} {K:afC},(∀ L2 rt,Hid (L2=L1++[.cells [dnA suf,.sl [] 0 (some 0),.int .i64 0]]/\rt=L1.length)->K (.tup [.ptr rt 0,.int .i64 0]) L2)->afB 14 [dnA suf] L1 K):=@hid _ (by
  intro L1 K q;exact Yz hdm (fun e=>absurd ho e) (fun e=>absurd e hne) fun _ _=>q _ _ (hid ⟨rfl,rfl⟩))
 have htk:Hid (TOk suf 0 ([]:List aB)):=hid (TOk.nil ho hne);clear hu hsm hs hdm hUS ho hne hMS;refine acg cz ?_;refine kT.out fun L1 it iv mn mi hT=>?_
 refine wk ?_;refine kR.out fun L2 rt hR=>?_
 clear kT kR;have hM0:Hid (∃ nb bn ck ci rs c last l,Yf L2 it iv mn mi rt nb bn ck ci rs c suf last l/\(∀ x∈l,avS x.av)/\last<=(0:Nat)/\l.length<=0):=hid (by
  obtain ⟨⟨nb,bn,ck,ci,rs,hc⟩,hi,hne⟩:=hT.out;obtain ⟨rfl,rfl⟩:=hR.out;refine ⟨nb,bn,ck,ci,rs,some 0,0,[],⟨htk.out,hc.app _,?_,?_,hne,ajn _,by decide,by simp,by simp⟩,by simp,ajn _,ahn _⟩
  ·rw [ahq (ahm.1 hi).1];exact hi
  ·rw [ahu (ahn _)];simp [aA])
 clear hT hR kk1 htk;refine wk ?_;refine bi (l:=[]) (n:=0) 13 1 rfl (ahQ 1).symm ?_;refine ah (fun m T' L'=>∃ (j:Nat) (C:List AV) (X:List Blk),m=us.length - j/\j<=us.length/\Hid (∃ ws:List (List UInt8),C=ws.map AV.str/\ws.length=j/\∀ s∈ws,s.length<=1100000)/\T'=[(81,.int .i64 (j:Int)),(80,.int .i64 us.length),(79,.sl US us.length cp),(13,.gsl C j L2.length 1),(9,.ptr rt 0),(7,.ptr it 0),(2,.sl MS ms.length cm)]/\L'=L2++(.spare j 1::X)) (CutS (b:=by simp)) ⟨0,[],[],rfl,ahp _,hid ⟨[],rfl,rfl,by simp⟩,rfl,by simp⟩ ?_;rintro _ _ _ ⟨j,C,X,rfl,hj,hC,rfl,rfl⟩;by_cases hjl:j<us.length
 ·have j4:(j:Int)<(us.length:Int):=by omega
  have j5:=ace j (by omega);have e4:j * 4+4<=US.length:=by omega
  have e5:=hat.out j hjl;have hq:=hu2.out (us.getD j yz) (by simp [hjl]);obtain ⟨u,hu⟩:=aaR (us.getD j yz);rw [hu] at e5 hq;obtain ⟨sm,hsm⟩:=aaR (smU u);have kk1:Hid (Ctr Tryz.prog 11 [.agg (dO u)] (.bool sm)):=@hid _ (by intro L K q;exact W0 hq.dn.1 hq.to.1 hq.attrs (fun a ha=>(hq.names a ha).2) (by rw [hsm];exact q));have hbx:∀ b:Blk,(L2++(.spare j 1::(X++[b])))[L2.length+(X.length+1)]?=some b:=fun b=>by
   rw [ahu (by omega),show L2.length+(X.length+1) - L2.length=X.length+1 by omega,aii,ahu (ahn _)];simp
  have hsx:∀ b b':Blk,(L2++(.spare j 1::(X++[b]))).set (L2.length+(X.length+1)) b'=L2++(.spare j 1::(X++[b'])):=fun b b'=>by
   rw [ahP _ _ (by omega),show L2.length+(X.length+1) - L2.length=X.length+1 by omega,aiB,ahP _ _ (ahn _)];simp
  cases sm with
  | false =>
    clear hu hq hsm hM0 hat hu2 hmat;obtain ⟨uk,ud,ut,ua⟩:=u;simp only [dO] at e5 kk1;refine wk ?_;exact ab (L0:=[]) (L2:=_) rfl h.out
  | true =>
  obtain ⟨m1,m2,m3⟩:=agC hq hsm;have hsu:ov u:=⟨m3.1,fun a ha=>⟨(hq.names a ha).1,m3.2 a ha,by
   simp only [smU,aht] at hsm;intro v hv;have:=((aab hsm.2.2).2 a ha).2 v hv;omega⟩⟩
  have kk2:Hid (Ctr Tryz.prog 16 [.agg (dO u)] (N4 (wrU u))):=@hid _ (by intro L K q;exact Tp m1 m2 hsu q);have hsh:=aar u;obtain ⟨⟨w,we⟩,hw⟩:∃ q,wrU u=q:=⟨_,rfl⟩;rw [hw] at kk2 hsh;have hC2:Hid (∃ ws:List (List UInt8),C++[.str w]=ws.map AV.str/\ws.length=j+1/\∀ s∈ws,s.length<=1100000):=hid (by
   obtain ⟨ws,rfl,rfl,h3⟩:=hC.out;refine ⟨ws++[w],by simp,by simp,fun s hs=>?_⟩;rcases ahr.1 hs with hs|hs
   ·exact h3 s hs
   ·rw [ahI.1 hs];have hsh:w.length<=1048581:=hsh;omega)
  simp only [N4] at kk2;clear hu hq hsm m1 m2 m3 hsu hsh hw hC hM0 hu2 hat hmat kk4;obtain ⟨uk,ud,ut,ua⟩:=u;simp only [dO] at e5 kk1 kk2;refine wk ?_;exact aq _ _ _ (by omega) (CutL (b:=by simp)) ⟨j+1,_,_,rfl,hjl,hC2,rfl,rfl⟩
 have hje:j=us.length:=by omega
 subst hje;have j4:¬ (us.length:Int)<(us.length:Int):=by omega
 clear hat hu2 hul;refine wk ?_;refine ah (fun m T' L'=>∃ (i:Nat),m=ms.length - i/\i<=ms.length/\Hid (∀ k,k<i->(ms.getD k []).length<=5000)/\T'=[(101,.int .i64 (i:Int)),(100,.int .i64 ms.length),(99,.sl MS ms.length cm),(13,.gsl C us.length L2.length 1),(9,.ptr rt 0),(7,.ptr it 0),(2,.sl MS ms.length cm)]/\L'=L2++(.spare us.length 1::X)) (CutS (b:=by simp)) ⟨0,rfl,ahp _,hid (fun k q=>absurd q (aja _)),rfl,rfl⟩ ?_;rintro _ _ _ ⟨i,rfl,hi,hsh,rfl,rfl⟩;by_cases hil:i<ms.length
 ·have j5:(i:Int)<(ms.length:Int):=by omega
  have j6:=ace i (by omega);have e5:=hmat.out i hil;have e6:i<MS.length:=by omega
  obtain ⟨s,hs⟩:=aaR (ms.getD i []);rw [hs] at e5;by_cases hg:5000<s.length
  ·have j7:(5000:Int)<(s.length:Int):=by omega
   clear hsh hs hM0 hC hmat;refine wk ?_;exact ab (L0:=[]) (L2:=_) rfl h.out
  ·have j7:¬ (5000:Int)<(s.length:Int):=by omega
   have hsh2:Hid (∀ k,k<i+1->(ms.getD k []).length<=5000):=hid (fun k q=>by
    rcases Nat.lt_succ_iff_lt_or_eq.1 q with q|q
    ·exact hsh.out k q
    ·rw [q,hs];omega)
   clear hsh hs hM0 hC hmat hg;refine wk ?_;exact aq _ _ _ (by omega) (CutL (b:=by simp)) ⟨i+1,rfl,hil,hsh2,rfl,rfl⟩
 have hie:i=ms.length:=by omega
 subst hie;have j5:¬ (ms.length:Int)<(ms.length:Int):=by omega
 obtain ⟨ws,hws,hwl,hwb⟩:=hC.out;have hall:Hid (∃ al:List (List UInt8),C++MS=al.map AV.str/\al.length=us.length+ms.length/\∀ k,k<al.length->(al.getD k []).length<=1100000):=hid (by
  refine ⟨ws++ms,by rw [hws,<- hMS2.out];simp,by simp [hwl],fun k hk=>?_⟩
  ·rw [ahE];by_cases h1:k<ws.length
   ·rw [ahq h1,ahB h1,ah9];exact hwb _ (ain h1)
   ·rw [ahu (by omega),<- ahE];have:=hsh.out (k - ws.length) (by simp at hk;omega);omega)
 have e8:AV.frzL MS=MS:=by rw [<- hMS2.out];exact lq ms
 have e9:MS.all AV.one=true:=by rw [<- hMS2.out];simp [AV.one]
 obtain ⟨CC,hCC⟩:=aaR (C++MS);rw [hCC] at hall;have hsp0:Hid ((L2++(Blk.spare (us.length+ms.length) 1::X))[L2.length]?=some (.spare (us.length+ms.length) 1)):=hid (by
  rw [ahu (ahn _)];simp)
 have hM1:Hid (∃ nb bn ck ci rs c last l,Yf (L2++(Blk.spare (us.length+ms.length) 1::X)) it iv mn mi rt nb bn ck ci rs c suf last l/\(∀ x∈l,avS x.av)/\last<=(0:Nat)/\l.length<=0):=hid (by
  obtain ⟨nb,bn,ck,ci,rs,c,last,l,h1,h2,h3,h4⟩:=hM0.out;exact ⟨nb,bn,ck,ci,rs,c,last,l,h1.app _,h2,h3,h4⟩)
 clear hC hsh hmat hws hwl hwb hMS2 hM0;obtain ⟨n0,e10⟩:=aaR (us.length+ms.length);have e11:(us.length:Int)+(ms.length:Int)=(n0:Int):=by omega
 have e12:n0 * 16<=140737488355328:=by omega
 have e13:n0<=140737488355328:=by omega
 rw [e10] at hsp0 hM1 hall;refine wk ?_;obtain ⟨al,hal,haln,hals⟩:=hall.out;have hn35:n0<=35:=by omega
 clear e10 e11 e12 e13;rw [haln] at hals;replace hals:=hid hals;replace hal:=hid hal;clear hall hCC e8 e9;refine ah (fun m T' L'=>∃ (j:Nat),m=n0 - j/\j<=n0/\Hid (∃ nb bn ck ci rs c last l,Yf L' it iv mn mi rt nb bn ck ci rs c suf last l/\(∀ x∈l,avS x.av)/\last<=(j:Int)/\l.length<=j)/\Hid (L'[L2.length]?=some (.spare n0 1))/\Hid (L2.length+(X.length+1)<=L'.length)/\T'=[(114,.int .i64 (j:Int)),(113,.int .i64 (n0:Int)),(112,.gsl CC n0 L2.length 1),(9,.ptr rt 0),(7,.ptr it 0)]) (CutS (b:=by simp)) ⟨0,rfl,ahp _,hM1,hsp0,hid (by simp),rfl⟩ ?_;clear hM1 hsp0;rintro _ _ L' ⟨j,rfl,hj,hM,hsp,hge,rfl⟩;have hspl:=(ahm.1 hsp.out).1;by_cases hjl2:j<n0
 ·have j6:(j:Int)<(n0:Int):=by omega
  have j7:=ace j (by omega);have hcl:CC.length=n0:=by rw [hal.out];simp [haln]
  have e1:CC.getD j .undef=.str (al.getD j []):=by rw [hal.out];exact V4 (by omega)
  have e2:j<CC.length:=by omega
  have hsz:=hals.out j hjl2;obtain ⟨s,hs⟩:=aaR (al.getD j []);rw [hs] at e1 hsz;obtain ⟨nb,bn,ck,ci,rs,c,last,l,hm,hav,hla,hll⟩:=hM.out;obtain ⟨d1,d2,d3,d4,d5⟩:=aaS hm.ok hm.l0 hsz hav;obtain ⟨⟨n,f⟩,hnf⟩:∃ q,YB suf l s=q:=⟨_,rfl⟩;have hsp1:=hsp.out;have hl1:=hm.l1;have hln:=hm.len;obtain ⟨P5,hP5⟩:∃ P:List Blk->Prop,(fun L5=>(∃ nb bn ck ci rs,bu L5 iv mn mi nb bn ck ci rs suf (Lf suf l last s).2 (Lf suf l last s).1)/\L5[it]?=some (.cells [.ptr iv 0])/\L5[rt]?=some (.cells [dnA suf,.sl (aA l) l.length c,.int .i64 last])/\L5[L2.length]?=some (.spare n0 1))=P:=⟨_,rfl⟩;have kR:Hid (∀ {c1:Option Nat} {K:afC},(∀ L5,Hid (P5 L5)->Hid (L'.length<=L5.length)->K (.tup [.int .i64 n,.int .i64 f]) L5)->afB 15 [.ptr it 0,.sl [.str s] 1 c1] L' K):=@hid _ (by
   intro c1 K q;refine acz hsz hm.ok hm.ne (by omega) hm.l0 (by omega) hm.it hm.code fun L5 nb' bn' ck' ci' rs' q1 q2 q3=>?_
   rw [hnf];refine q L5 (hid ?_) (hid q3.len);rw [<- hP5];exact ⟨⟨nb',bn',ck',ci',rs',q1⟩,q2,q3.get hm.rt (hm.code.noOf hm.rt (.inl (by simp))),q3.get hsp1 (hm.code.noSp hsp1)⟩)
  have kS:Hid (∀ {L5:List Blk} {c1:Option Nat} {K:afC},Hid (P5 L5)->(∀ L6,Hid (∃ nb bn ck ci rs c last l,Yf L6 it iv mn mi rt nb bn ck ci rs c suf last l/\(∀ x∈l,avS x.av)/\last<=((j+1:Nat):Int)/\l.length<=j+1)->Hid (L6[L2.length]?=some (.spare n0 1))->Hid (L5.length<=L6.length)->K (.tup [.int .i64 n,.int .i64 f]) L6)->afB 17 [.ptr rt 0,.sl [.str s] 1 c1] L5 K):=@hid _ (by
   intro L5 c1 K hp q;have hp:=hp.out;rw [<- hP5] at hp;obtain ⟨⟨nb',bn',ck',ci',rs',q1⟩,q2,q3,q4⟩:=hp;refine aaO hsz hm.ok (by omega) hm.l0 (by omega) q3 fun L6 c' r1 r2=>?_
   rw [hnf];refine q L6 (hid ⟨nb',bn',ck',ci',rs',c',_,_,⟨d1,q1.keep q3 rfl r2,r2.get q2 fun e=>?_,r1,hm.ne,Int.le_trans hm.l0 d2,by omega,by omega,fun x hx=>(d5 x hx).ok⟩,d5,by omega,by omega⟩) (hid (r2.get q4 fun e=>?_)) (hid r2.len)
   ·rw [e,q3] at q2;simp at q2
   ·rw [e,q3] at q4;simp at q4)
  have j8:(!decide (n=n))=false:=by simp
  have j9:(!decide (f=f))=false:=by simp
  clear hM hsp hs hsz hm hav hla hll d1 d2 d3 d4 d5 hnf hsp1 hP5 hl1 hln hal hals kk4 haln;refine wk ?_;refine kR.out fun L5 h5 hl5=>?_
  clear kR;refine wk ?_;refine kS.out h5 fun L6 h6 hs6 hl6=>?_
  clear kS;refine wk ?_;exact aq _ _ _ (by omega) (CutL (b:=by have:=hl5.out;have:=hl6.out;have:=hge.out;omega)) ⟨j+1,rfl,hjl2,h6,hs6,hid (by have:=hl5.out;have:=hl6.out;have:=hge.out;omega),rfl⟩
 have hje:j=n0:=by omega
 subst hje;have j6:¬ (j:Int)<(j:Int):=by omega
 obtain ⟨nb,bn,ck,ci,rs,c,last,l,hm,hav,hla,hll⟩:=hM.out;have hi:=hm.it;have hln:=hm.len;have hdl:((yG (lE suf l)).map AV.str).length=(lE suf l).length:=by simp [yG]
 have hwl:(lE suf l).length<=l.length:=QL _ _;have kk1:Hid (∀ {K:afC},K (.bool true) L'->afB 10 [.ptr iv 0,.ptr rt 0] L' K):=@hid _ (by intro K q;exact afT hm q);have kk2:Hid (∀ {K:afC},K (.sl ((yG (lE suf l)).map AV.str) (lE suf l).length none) L'->afB 18 [.ptr iv 0] L' K):=@hid _ (by intro K q;exact af3 hm.ok (by omega) hm.av (fun x hx=>hav x hx) hm.code q);have kk3:Hid (∀ {K:afC},K (.sl ((yG (lE suf l)).map AV.str) (lE suf l).length none) L'->afB 19 [.ptr rt 0] L' K):=@hid _ (by intro K q;exact aes hm.ok (by omega) (fun x hx=>hav x hx) hm.rt q);have hdat:=hid (fun k (q:k<(yG (lE suf l)).length)=>V4 (l:=yG (lE suf l)) q);have hdl2:(yG (lE suf l)).length=(lE suf l).length:=by simp [yG]
 rw [hdl2] at hdat;obtain ⟨D,hD⟩:=aaR ((yG (lE suf l)).map AV.str);obtain ⟨dn,hdn⟩:=aaR ((lE suf l).length);rw [hD,hdn] at kk2 kk3 hdl;rw [hdn] at hwl;rw [hD,hdn] at hdat;clear hM hsp hm hav hla hll hD hdn hal hals hdl2 haln;refine wk ?_;clear kk1 kk2 kk3 kk4;refine ah (fun m T' L''=>∃ (k:Nat),m=dn - k/\k<=dn/\T'=[(166,.int .i64 (k:Int)),(165,.int .i64 dn),(26,.sl D dn none),(27,.sl D dn none)]/\L''=L') (CutS (b:=ahn _)) ⟨0,rfl,ahp _,rfl,rfl⟩ ?_;rintro _ _ _ ⟨k,rfl,hk,rfl,rfl⟩;by_cases hkl:k<dn
 ·have j7:(k:Int)<(dn:Int):=by omega
  have j8:=ace k (by omega);have e1:=hdat.out k hkl;have e2:k<D.length:=by omega
  obtain ⟨w,hw⟩:=aaR ((yG (lE suf l)).getD k []);rw [hw] at e1;have j9:(!decide (w=w))=false:=by simp
  clear hw hdat;refine wk ?_;exact aq _ _ _ (by omega) (CutL (b:=by simp)) ⟨k+1,rfl,hkl,rfl,rfl⟩
 ·have hke:k=dn:=by omega
  subst hke;have j7:¬ (k:Int)<(k:Int):=by omega
  clear hdat;refine wk ?_;exact ab (L0:=[]) (L2:=_) rfl h.out
end Go.Proofs.YtobihfefmlgaoaaGreat.Av
