/- Joined texts of the walk, made small by a program. -/
import Derived.Test.YtgpnbkdcdmfgcaaGreatYC2
import Derived.Test.YtgpnbkdcdmfgcaaGreatYC3
import Derived.Test.YtgpnbkdcdmfgcaaGreatYP5
import Derived.Test.YtgpnbkdcdmfgcaaGreatYD2
set_option linter.unusedSimpArgs false
set_option linter.unusedVariables false
namespace Go.Proofs.YtgpnbkdcdmfgcaaGreat.Av
open Go
set_option maxHeartbeats 8000000
set_option maxRecDepth 100000
def szB (B:Nat):Nat→Nd→Prop
 | 0,n=>n.data.length≤B∧n.kids.length≤B
 | k+1,n=>n.data.length≤B∧n.kids.length≤B∧∀ x∈n.kids,szB B k x
theorem yf {B:Nat}:∀ {k:Nat} {n:Nd},szB B k n→n.data.length≤B∧n.kids.length≤B
 | 0,_,h=>h
 | _+1,_,h=>⟨h.1,h.2.1⟩
def CB:Option Upd→AV
 | none=>.tup [.agg [.int .i64 0,.sl [] 0 none,.sl [] 0 none,.sl [] 0 none],.bool false]
 | some u=>.tup [.agg (cF u),.bool true]
theorem ph {l:List Nd} {k:Nat} (h:k<l.length):(ao l).getD (k * 3+1) .undef=.str (l.getD k a8).data:=by
 have h3:=congrArg (fun l=>l[1]?) (jR h)
 simp only [List.getElem?_take_of_lt (show 1<3 by omega),List.getElem?_drop] at h3
 rw [List.getD_eq_getElem?_getD,h3,bV];rfl
theorem BH {l:List Nd} {k:Nat} (h:k<l.length):(ao l).getD (k * 3+2) .undef=.sl (ao (l.getD k a8).kids) (l.getD k a8).kids.length none:=by
 have h3:=congrArg (fun l=>l[2]?) (jR h)
 simp only [List.getElem?_take_of_lt (show 2<3 by omega),List.getElem?_drop] at h3
 rw [List.getD_eq_getElem?_getD,h3,bV];rfl
theorem uf:∀ (l:List Nd) (k:Nat),(ao l).drop (k * 3)=ao (l.drop k)
 | [],k=>by
   have e:ao []=[]:=by rw [ao]
   rw [List.drop_nil,e,List.drop_nil]
 | n::l,0=>by simp
 | n::l,k+1=>by
   rw [List.drop_succ_cons,← uf l k,ao,List.drop_append,bV]
   rw [List.drop_eq_nil_of_le (by simp;omega),List.nil_append]
   congr 1
   simp;omega
def Fm (l:List Nd):Option Upd :=
 if l.length<2∨4<l.length then none else
 match zX (l.getD 0 a8).data with
 | none=>none
 | some k =>
   let p:=dT (l.getD 1 a8).data
   let r:=l.drop 2
   let q:=if k=4∧r≠[] then dT (r.getD 0 a8).data else ([],0)
   let r':=if k=4 then r.drop 1 else r
   if p.2≠0∨q.2≠0∨1<r'.length then none else
   match r' with
   | []=>some ⟨k,p.1,q.1,[]⟩
   | x::_=>(jM x.kids).map fun a=>⟨k,p.1,q.1,a⟩
theorem AT (t:Int) (d:List UInt8) (l:List Nd):zR (.mk t d l)=Fm l:=rfl
theorem Cy {n:Nd} (hz:szB 1100000 4 n) {L:List Blk} {K:AV→List Blk→Prop} (h:K (CB (zR n)) L):ad Tryz.prog 35 [.agg (ndA n)] L K:=by
 obtain ⟨tg,dt,l⟩:=n
 rw [aW]
 rw [AT,Fm] at h
 obtain ⟨_,hzl,hzk⟩:=hz
 simp only [Nd.kids] at hzl hzk
 by_cases hl:l.length<2∨4<l.length
 · rw [if_pos hl] at h
   simp only [CB] at h
   replace h:=hid h
   clear hzk
   rcases hl with h2|h4
   · have g1:(l.length:Int)<2:=by omega
     clear h2
     refine ae dl (by simp [be]) ?_
     simp only [be,an]
     refine wk ?_
     exact au (aa rfl h.out)
   · have g1:¬ (l.length:Int)<2:=by omega
     have g2:(4:Int)<(l.length:Int):=by omega
     clear h4
     refine ae dl (by simp [be]) ?_
     simp only [be,an]
     refine wk ?_
     exact au (aa rfl h.out)
 rw [if_neg hl] at h
 have g1:¬ (l.length:Int)<2:=by omega
 have g2:¬ (4:Int)<(l.length:Int):=by omega
 have g3:(0:Int)<(l.length:Int):=by omega
 have g4:(1:Int)<(l.length:Int):=by omega
 have g5:(2:Int)≤(l.length:Int):=by omega
 have f0:(ao l).getD 1 .undef=.str (l.getD 0 a8).data:=ph (k:=0) (by omega)
 have f1:(ao l).getD 4 .undef=.str (l.getD 1 a8).data:=ph (k:=1) (by omega)
 have f2:=df l
 have f3:(ao l).drop 6=ao (l.drop 2):=uf l 2
 have b0:1<(ao l).length:=by omega
 have b1:4<(ao l).length:=by omega
 obtain ⟨n0,hn0⟩:∃ x,l.getD 0 a8=x:=⟨_,rfl⟩
 obtain ⟨n1,hn1⟩:∃ x,l.getD 1 a8=x:=⟨_,rfl⟩
 have z0:=yf (hzk n0 (by rw [← hn0];simp [show 0<l.length by omega]))
 rw [hn0] at f0 h
 rw [hn1] at f1 h
 rcases hnum:zX n0.data with _|k
 · rw [hnum] at h
   simp only [CB] at h
   replace h:=hid h
   have kk1:Hid (∀ {L:List Blk} {K:AV→List Blk→Prop},K (.tup [.int .i64 0,.bool false]) L→ad Tryz.prog 51 [.str n0.data] L K):=@hid _ (by intro L K q;exact xY z0.1 (by rw [hnum];exact q))
   clear hzk hnum hn0 hn1 z0 hl
   refine ae dl (by simp [be]) ?_
   simp only [be,an]
   refine wk ?_
   exact au (aa rfl h.out)
 rw [hnum] at h
 simp only at h
 have kk1:Hid (∀ {L:List Blk} {K:AV→List Blk→Prop},K (.tup [.int .i64 k,.bool true]) L→ad Tryz.prog 51 [.str n0.data] L K):=@hid _ (by intro L K q;exact xY z0.1 (by rw [hnum];exact q))
 obtain ⟨⟨d1,e1⟩,hp1⟩:∃ q,dT n1.data=q:=⟨_,rfl⟩
 have kk2:Hid (∀ {L:List Blk} {K:AV→List Blk→Prop},K (.tup [dnA d1,.int .i64 e1]) L→ad Tryz.prog 52 [.str n1.data] L K):=@hid _ (by intro L K q;exact AY (by rw [hp1];exact q))
 rw [hp1] at h
 simp only at h
 obtain ⟨r,hr⟩:∃ r,l.drop 2=r:=⟨_,rfl⟩
 have hrl:r.length+2=l.length:=by rw [← hr];simp;omega
 have hzr:∀ x∈r,szB 1100000 3 x:=fun x hx=>hzk x (by rw [← hr] at hx;exact List.mem_of_mem_drop hx)
 rw [hr] at f3 h
 have f4:((l.length:Int)).toNat - 2=r.length:=by omega
 have f5:(ao r).take (r.length * 3)=ao r:=by rw [← df r,List.take_length]
 have f6:l.length - 2=r.length:=by omega
 clear hzk hnum hn0 hn1 z0 hl hp1 hr
 replace hzr:=hid hzr
 refine ae dl (by simp [be]) ?_
 simp only [be,an]
 iterate 42 first
   | refine dR ?_
   | (first|refine db (by kernel_rfl) ?_|refine cg (by kernel_rfl) ?_|refine ch ?_|refine iq ?_|refine dM (fun _=>?_)|refine bj ?_|refine de ?_|refine kk1.out ?_|refine kk2.out ?_|refine aY (kk1.out ⟨rfl,rfl⟩) (kk1.out ⟨rfl,rfl⟩) ?_|refine aY (kk2.out ⟨rfl,rfl⟩) (kk2.out ⟨rfl,rfl⟩) ?_|refine aq (kk1.out ⟨rfl,rfl⟩) ?_|refine aq (kk2.out ⟨rfl,rfl⟩) ?_)
     simp (config:={ maxSteps:=2000000 }) only [Kon,push_cast,reduceIte,Nat.reduceEqDiff,Nat.reduceAdd,Nat.reduceMul,Nat.reduceSub,Nat.reduceLT,Nat.reduceLeDiff,Int.reduceLT,Int.reduceLE,Int.reduceAdd,Int.reduceSub,Int.reduceNeg,Int.reduceToNat,Int.reduceEq,reduceCtorEq, *]
   | (first|refine c7 (by kernel_rfl) ?_|refine dc ?_|refine dd ?_|refine dS (bi ?_))
     simp only [push_cast,reduceIte,Nat.reduceEqDiff,Nat.reduceAdd,Nat.reduceMul,Nat.reduceSub,Nat.reduceLT,Nat.reduceLeDiff,Int.reduceLT,Int.reduceLE,Int.reduceAdd,Int.reduceSub,Int.reduceNeg,Int.reduceToNat,Int.reduceEq,reduceCtorEq, *]
   | exact dN
   | first|apply dO|apply c8|apply dP|apply c9|apply dQ|apply da
   | refine cm ?_
   | first|refine ci rfl ?_|refine cj rfl ?_|refine aZ rfl ?_ ?_|refine cT rfl (fun _=>?_) (fun _=>?_)|refine cS rfl (fun _=>?_) (fun _=>?_)
   | ((first|refine aX (fun _=>?_) (fun _=>?_)|refine bh (fun _=>?_) (fun _=>?_))<;>try simp (config:={ maxSteps:=2000000 }) only [Kon,push_cast,reduceIte,Nat.reduceEqDiff,Nat.reduceAdd,Nat.reduceMul,Nat.reduceSub,Nat.reduceLT,Nat.reduceLeDiff,Int.reduceLT,Int.reduceLE,Int.reduceAdd,Int.reduceSub,Int.reduceNeg,Int.reduceToNat,Int.reduceEq,reduceCtorEq, *])
   | refine And.intro trivial ?_
   | refine And.intro (by omega) ?_
   | refine bD rfl (fun _=>?_) (fun _=>?_)
   | refine And.intro ?_ ?_
 obtain ⟨q,hq⟩:∃ q,(if k=4∧r≠[] then dT (r.getD 0 a8).data else ([],0))=q:=⟨_,rfl⟩
 obtain ⟨d2,e2⟩:=q
 obtain ⟨r',hr'⟩:∃ r',(if k=4 then r.drop 1 else r)=r':=⟨_,rfl⟩
 rw [hq,hr'] at h
 simp only at h
 have hzr':∀ x∈r',szB 1100000 3 x:=fun x hx=>by
   rw [← hr'] at hx
   split at hx
   · exact hzr.out x (List.mem_of_mem_drop hx)
   · exact hzr.out x hx
 replace h:=hid h
 refine wg (fun T2 L2=>∃ ct:Option Nat,T2=[(10,.sl (ao r') r'.length none),(9,.int .i64 e2),(8,.int .i64 e1),(7,.ptr (L.length+2) 0),(3,.bool false),(2,.ptr (L.length+1) 0)]∧L2=L++[.cells [.int .i64 tg,.str dt,.sl (ao l) l.length none],.cells [.int .i64 0,.sl [] 0 (some 0),.sl [] 0 (some 0),.sl [] 0 (some 0)],.cells [.int .i64 k,dnA d1,.sl (d2.map aC) d2.length ct,.sl [] 0 (some 0)]]) ?_ ?_
 · clear f0 f1 f2 f3 f4 b0 b1 kk1 kk2
   by_cases h4:k=4
   · rw [if_pos h4] at hr'
     by_cases hr0:r=[]
     · rw [if_neg (fun e=>e.2 hr0)] at hq
       cases hq
       subst hr0
       subst hr'
       subst h4
       have e0:ao []=[]:=by rw [ao]
       refine wk ?_
       exact kj [(10,.sl (ao []) ([]:List Nd).length none),(9,.int .i64 0),(8,.int .i64 e1),(7,.ptr (L.length+2) 0),(3,.bool false),(2,.ptr (L.length+1) 0)] _ (pc (dC rfl (by rw [e0];rfl) (by repeat' first|exact o6|refine dC rfl rfl ?_)) (by simp)) ⟨some 0,rfl,rfl⟩
     · rw [if_pos ⟨h4,hr0⟩] at hq
       have hrp:0<r.length:=List.length_pos_iff.2 hr0
       have p1:(0:Int)<(r.length:Int):=by omega
       have p2:(1:Int)≤(r.length:Int):=by omega
       have f0:(ao r).getD 1 .undef=.str (r.getD 0 a8).data:=ph (k:=0) hrp
       have f2:=df r
       have f3:(ao r).drop 3=ao (r.drop 1):=uf r 1
       have b1:1<(ao r).length:=by omega
       have f7:r'.length=r.length - 1:=by rw [← hr'];simp
       have f8:(ao r').take ((r.length - 1) * 3)=ao r':=by rw [← f7,← df r',List.take_length]
       obtain ⟨n2,hn2⟩:∃ x,r.getD 0 a8=x:=⟨_,rfl⟩
       rw [hn2] at f0 hq
       rw [hr'] at f3
       have kk1:Hid (∀ {L:List Blk} {K:AV→List Blk→Prop},K (.tup [dnA d2,.int .i64 e2]) L→ad Tryz.prog 52 [.str n2.data] L K):=@hid _ (by intro L K q;exact AY (by rw [hq];exact q))
       have f9:=bm d2
       clear hq hr' hn2 hr0
       subst h4
       refine wk ?_
       exact kj _ _ (CutL (b:=by simp)) ⟨none,rfl,rfl⟩
   · rw [if_neg h4] at hr'
     rw [if_neg (fun e=>h4 e.1)] at hq
     cases hq
     subst hr'
     refine wk ?_
     exact kj _ _ (CutL (b:=by simp)) ⟨some 0,rfl,rfl⟩
 rintro _ _ ⟨ct,rfl,rfl⟩ -
 clear hq hr' hzr f0 f1 f2 f3 f4 f5 f6 b0 b1 kk1 kk2 hrl g1 g2 g3 g4 g5
 by_cases hbad:e1≠0∨e2≠0∨1<r'.length
 · have h':=h.out
   rw [if_pos hbad] at h'
   simp only [CB] at h'
   replace h':=hid h'
   have hb:e1≠0∨e2≠0∨(1:Int)<(r'.length:Int):=by omega
   clear h hbad hzr'
   by_cases c1:e1=0
   · by_cases c2:e2=0
     · have c3:(1:Int)<(r'.length:Int):=by omega
       clear hb
       subst c1
       subst c2
       refine wk ?_
       exact au (aa rfl h'.out)
     · clear hb
       subst c1
       refine wk ?_
       exact au (aa rfl h'.out)
   · clear hb
     refine wk ?_
     exact au (aa rfl h'.out)
 have h':=h.out
 rw [if_neg hbad] at h'
 have hgood:e1=0∧e2=0∧r'.length≤1:=by omega
 obtain ⟨rfl,rfl,hr1⟩:=hgood
 clear h hbad
 rcases r' with _|⟨x,r2⟩
 · simp only [CB] at h'
   replace h':=hid h'
   have e0:ao []=[]:=by rw [ao]
   clear hzr'
   refine wk ?_
   refine ak (fun m T' L'=>m=0∧T'=[(86,.int .i64 0),(85,.int .i64 0),(84,.sl [] 0 none),(7,.ptr (L.length+2) 0),(2,.ptr (L.length+1) 0)]∧L'=L++[.cells [.int .i64 tg,.str dt,.sl (ao l) l.length none],.cells [.int .i64 0,.sl [] 0 (some 0),.sl [] 0 (some 0),.sl [] 0 (some 0)],.cells [.int .i64 k,dnA d1,.sl (d2.map aC) d2.length ct,.sl [] 0 (some 0)]]) (CutS (b:=by simp)) ⟨rfl,rfl,rfl⟩ ?_
   rintro _ _ _ ⟨rfl,rfl,rfl⟩
   refine wk ?_
   refine au ?_
   simp only [AV.frz,AV.frzL,bm]
   refine aa ?_ h'.out
   simp only [AV.refs,AV.refsL,cW];rfl
 have hr2:r2=[]:=by
   simp at hr1
   exact hr1
 subst hr2
 obtain ⟨_,hxl,hxk⟩:=hzr' x (by simp)
 clear hzr' hr1
 simp only at h'
 obtain ⟨ks,hks⟩:∃ ks,x.kids=ks:=⟨_,rfl⟩
 rw [hks] at h' hxl hxk
 obtain ⟨A,hA⟩:∃ A,jM ks=A:=⟨_,rfl⟩
 rw [hA] at h'
 have hno:A=none→K (.tup [.agg [.int .i64 0,.sl [] 0 none,.sl [] 0 none,.sl [] 0 none],.bool false]) L:=fun e=>by rw [e] at h';exact h'
 have hyes:∀ a,A=some a→K (.tup [.agg [.int .i64 k,dnA d1,dnA d2,.sl (aB a) a.length none],.bool true]) L:=fun a e=>by rw [e] at h';exact h'
 have hrow:ao [x]=[.int .i64 x.tag,.str x.data,.sl (ao ks) ks.length none]:=by
   rw [ao,bV,hks,ao,List.append_nil]
 rw [hrow]
 replace hno:=hid hno
 replace hyes:=hid hyes
 replace hxk:=hid hxk
 obtain ⟨N0,hN0⟩:∃ b,Blk.cells [.int .i64 tg,.str dt,.sl (ao l) l.length none]=b:=⟨_,rfl⟩
 rw [hN0]
 clear h' hks hrow hN0
 refine wk ?_
 refine t8 (L.length+2) 3 2 (c:=[.int .i64 k,dnA d1,.sl (d2.map aC) d2.length ct,.sl [] 0 (some 0)]) (l:=[]) (n:=0) (by simp) rfl (Nat.zero_mul 2).symm ?_
 refine ak (fun m T' L'=>∃ (i:Nat) (acc:List Atr) (D:List AV) (X:List Blk),m=1 - i∧i≤1∧Hid (if i=0 then acc=[] else A=some acc)∧Hid (D=aB acc)∧T'=[(86,.int .i64 (i:Int)),(85,.int .i64 1),(84,.sl [.int .i64 x.tag,.str x.data,.sl (ao ks) ks.length none] 1 none),(7,.ptr (L.length+2) 0),(3,.bool false),(2,.ptr (L.length+1) 0)]∧L'=L++(N0 :: .cells [.int .i64 0,.sl [] 0 (some 0),.sl [] 0 (some 0),.sl [] 0 (some 0)] :: .cells [.int .i64 k,dnA d1,.sl (d2.map aC) d2.length ct,.gsl D acc.length (L.length+3) 2] :: .spare acc.length 2::X)) (CutS (b:=by simp)) ⟨0,[],[],[],rfl,by omega,hid (by simp),hid rfl,rfl,by simp⟩ ?_
 rintro _ _ _ ⟨i,acc,D,X,rfl,hi,hI,hD,rfl,rfl⟩
 by_cases hi0:i=0
 rotate_left
 · have hi1:i=1:=by omega
   subst hi1
   have hIA:=hI.out
   rw [if_neg (by omega)] at hIA
   have h':=hid (hyes.out acc hIA)
   have hD2:=hD.out
   have e0:=jN acc
   subst hD2
   clear hI hD hIA hyes hno
   refine wk ?_
   refine au ?_
   simp only [AV.frz,AV.frzL,bm,e0]
   refine aa ?_ h'.out
   simp only [AV.refs,AV.refsL,cW,ft];rfl
 subst hi0
 have hacc:=hI.out
 rw [if_pos rfl] at hacc
 subst hacc
 have hD2:=hD.out
 have e00:aB []=[]:=rfl
 rw [e00] at hD2
 subst hD2
 clear hI hD
 refine wk ?_
 refine ak (fun m T' L'=>∃ (acc:List Atr) (j:Nat) (D:List AV) (Y:List Blk),m=ks.length - j∧j≤ks.length∧X.length+1≤Y.length∧Hid ((jM (ks.drop j)).map (fun r=>acc++r)=A)∧Hid (D=aB acc∧j=acc.length)∧T'=[(93,.int .i64 (j:Int)),(92,.int .i64 ks.length),(91,.sl (ao ks) ks.length none),(86,.int .i64 0),(85,.int .i64 1),(84,.sl [.int .i64 x.tag,.str x.data,.sl (ao ks) ks.length none] 1 none),(7,.ptr (L.length+2) 0),(3,.bool false),(2,.ptr (L.length+1) 0)]∧L'=L++(N0 :: .cells [.int .i64 0,.sl [] 0 (some 0),.sl [] 0 (some 0),.sl [] 0 (some 0)] :: .cells [.int .i64 k,dnA d1,.sl (d2.map aC) d2.length ct,.gsl D j (L.length+3) 2] :: .spare j 2::Y)) (CutS (b:=by simp)) ⟨[],0,[],_,rfl,Nat.zero_le _,by simp,hid (by rw [List.drop_zero,hA];cases A<;>rfl),hid ⟨rfl,rfl⟩,rfl,rfl⟩ ?_
 rintro _ _ _ ⟨acc,j,D,Y,rfl,hj,hXY,hJ,hDj,rfl,rfl⟩
 by_cases hjl:j<ks.length
 · have j1:(j:Int)<(ks.length:Int):=by omega
   have j2:IntKind.i64.wrap ((j:Int)+1)=(j:Int)+1:=af (by omega) (by omega)
   have e3:=jR hjl
   have e4:j * 3+3≤(ao ks).length:=by rw [df];omega
   obtain ⟨a,ha⟩:∃ a,ks.getD j a8=a:=⟨_,rfl⟩
   have hdr:ks.drop j=a::ks.drop (j+1):=by rw [List.drop_eq_getElem_cons hjl,← ha];simp [hjl]
   obtain ⟨_,hal,hak⟩:=hxk.out a (by rw [← ha];simp [hjl])
   rw [ha,bV] at e3
   have hJ2:=hJ.out
   rw [hdr,jM] at hJ2
   clear hJ hdr ha hA
   by_cases h2:a.kids.length=2
   rotate_left
   · rw [if_pos h2] at hJ2
     have h':=hid (hno.out hJ2.symm)
     have g2:¬ (a.kids.length:Int)=2:=by omega
     clear hJ2 h2 hno hyes
     refine wk ?_
     exact au (aa rfl h'.out)
   rw [if_neg (by omega)] at hJ2
   have g2:(a.kids.length:Int)=2:=by omega
   have f0:(ao a.kids).getD 1 .undef=.str (a.kids.getD 0 a8).data:=ph (k:=0) (by omega)
   have f1:(ao a.kids).getD 5 .undef=.sl (ao (a.kids.getD 1 a8).kids) (a.kids.getD 1 a8).kids.length none:=BH (k:=1) (by omega)
   have b0:1<(ao a.kids).length:=by rw [df];omega
   have b1:5<(ao a.kids).length:=by rw [df];omega
   obtain ⟨nm,hnm⟩:∃ s,(a.kids.getD 0 a8).data=s:=⟨_,rfl⟩
   obtain ⟨vk,hvk⟩:∃ s,(a.kids.getD 1 a8).kids=s:=⟨_,rfl⟩
   have hvl:vk.length≤1100000:=by
     rw [← hvk]
     exact (yf (hak _ (by simp [show 1<a.kids.length by omega]))).2
   rw [hnm] at f0 hJ2
   rw [hvk] at f1 hJ2
   have hJ3:(jM (ks.drop (j+1))).map (fun r=>(acc++[(nm,iB vk)])++r)=A:=by
     rw [← hJ2]
     cases jM (ks.drop (j+1))<;>simp
   replace hJ3:=hid hJ3
   clear hJ2 hnm hvk hak hno hyes h2
   refine wk ?_
   refine t8 (L.length+(Y.length+1+1+1+1+1)) 1 1 (c:=[.str nm,.sl [] 0 (some 0)]) (l:=[]) (n:=0) (by simp) rfl (Nat.zero_mul 1).symm ?_
   refine ak (fun m T' L'=>∃ (p:Nat) (E:List AV) (Z:List Blk),m=vk.length - p∧p≤vk.length∧Hid (E=(iB (vk.take p)).map AV.str)∧T'=[(114,.int .i64 (p:Int)),(113,.int .i64 vk.length),(112,.sl (ao vk) vk.length none),(15,.ptr (L.length+(Y.length+1+1+1+1+1)) 0),(93,.int .i64 (j:Int)),(92,.int .i64 ks.length),(91,.sl (ao ks) ks.length none),(86,.int .i64 0),(85,.int .i64 1),(84,.sl [.int .i64 x.tag,.str x.data,.sl (ao ks) ks.length none] 1 none),(7,.ptr (L.length+2) 0),(3,.bool false),(2,.ptr (L.length+1) 0)]∧L'=L++(N0 :: .cells [.int .i64 0,.sl [] 0 (some 0),.sl [] 0 (some 0),.sl [] 0 (some 0)] :: .cells [.int .i64 k,dnA d1,.sl (d2.map aC) d2.length ct,.gsl D j (L.length+3) 2] :: .spare j 2::(Y++(.cells [.int .i64 a.tag,.str a.data,.sl (ao a.kids) a.kids.length none] :: .cells [.str nm,.gsl E p (L.length+(Y.length+1+1+1+1+1+1)) 1] :: .spare p 1::Z)))) (CutS (b:=by simp)) ⟨0,[],[],rfl,Nat.zero_le _,hid rfl,rfl,by simp⟩ ?_
   rintro _ _ _ ⟨p,E,Z,rfl,hp,hE,rfl,rfl⟩
   by_cases hpl:p<vk.length
   · have p1:(p:Int)<(vk.length:Int):=by omega
     have p2:IntKind.i64.wrap ((p:Int)+1)=(p:Int)+1:=af (by omega) (by omega)
     have e5:=jR hpl
     have e6:p * 3+3≤(ao vk).length:=by rw [df];omega
     obtain ⟨v,hv⟩:∃ v,vk.getD p a8=v:=⟨_,rfl⟩
     rw [hv,bV] at e5
     have htk:(iB (vk.take (p+1))).map AV.str=E++[.str v.data]:=by
       rw [hE.out,List.take_succ_eq_append_getElem hpl,show vk[p]=v by rw [← hv];simp [hpl]]
       simp [iB]
     replace htk:=hid htk
     clear hv hE
     refine wk ?_
     exact ap _ _ _ (by omega) (CutL (b:=by simp)) ⟨p+1,_,Z++[.cells [.int .i64 v.tag,.str v.data,.sl (ao v.kids) v.kids.length none]],rfl,hpl,hid htk.out.symm,rfl,by simp⟩
   · have hpe:p=vk.length:=by omega
     subst hpe
     have p1:¬ (vk.length:Int)<(vk.length:Int):=by omega
     have hE2:=hE.out
     rw [List.take_length] at hE2
     have e5:AV.frzL E=E:=by rw [hE2];exact tV _
     have hDn:D++[.str nm,.sl E vk.length none]=aB (acc++[(nm,iB vk)]):=by
       rw [hDj.out.1,xn,hE2]
       simp only [aB,List.flatMap_cons,List.flatMap_nil,List.append_nil,atA,iB,List.length_map]
     replace hDn:=hid hDn
     clear hE hE2
     refine wk ?_
     refine ap _ _ _ (by omega) (CutL (b:=by simp;omega)) ⟨acc++[(nm,iB vk)],j+1,_,_,rfl,hjl,?_,hJ3,hid ⟨hDn.out,by rw [hDj.out.2];simp⟩,rfl,rfl⟩
     simp;omega
 · have hje:j=ks.length:=by omega
   subst hje
   have j1:¬ (ks.length:Int)<(ks.length:Int):=by omega
   have hJ2:=hJ.out
   rw [List.drop_length,jM] at hJ2
   simp only [Option.map_some,List.append_nil] at hJ2
   replace hJ2:=hid hJ2
   clear hJ
   refine wk ?_
   exact ap _ _ _ (by omega) (CutL (b:=by simp)) ⟨1,acc,D,Y,rfl,by omega,hid (by rw [if_neg (by omega)];exact hJ2.out.symm),hid hDj.out.1,rfl,by rw [← hDj.out.2]⟩
set_option maxHeartbeats 8000000
set_option maxRecDepth 100000
theorem wr {B C:Nat} (h:B≤C):∀ {k:Nat} {n:Nd},szB B k n→szB C k n
 | 0,_,hz=>⟨by have:=hz.1;omega,by have:=hz.2;omega⟩
 | _+1,_,hz=>⟨by have:=hz.1;omega,by have:=hz.2.1;omega,fun x hx=>wr h (hz.2.2 x hx)⟩
theorem A5 {p:List UInt8→Except Int (Nd×List UInt8)} (hp:∀ s n r,p s=.ok (n,r)→r.length<s.length):∀ (F:Nat) (u:List UInt8) (l:List Nd),fm p F u=.ok l→l.length≤u.length∧∀ x∈l,∃ v r,v.length≤u.length∧p v=.ok (x,r)
 | 0,[],l,h=>by cases h;simp
 | 0,_::_,l,h=>by cases h;simp
 | F+1,[],l,h=>by cases h;simp
 | F+1,c::u,l,h=>by
   rw [A6 (by simp)] at h
   split at h
   · cases h
   rename_i n r hpu
   split at h
   · cases h
   rename_i l' hm
   cases h
   have hlt:=hp _ _ _ hpu
   obtain ⟨h1,h2⟩:=A5 hp F r l' hm
   refine ⟨by simp at hlt ⊢;omega,fun x hx=>?_⟩
   rcases List.mem_cons.1 hx with rfl|hx
   · exact ⟨_,_,Nat.le_refl _,hpu⟩
   · obtain ⟨v,r',a,b⟩:=h2 x hx
     exact ⟨v,r',by omega,b⟩
theorem CQ:∀ (f:Nat) {s:List UInt8} {n:Nd} {r:List UInt8},eB f s=.ok (n,r)→∀ k,szB s.length k n
 | 0,s,n,r,h,k=>by cases h
 | f+1,s,n,r,h,k=>by
   rw [eB] at h
   split at h
   · cases h
   simp only at h
   split at h
   · cases h
   split at h
   · cases h
   rename_i size a hb
   split at h
   · cases h
   rename_i hsz
   split at h
   · cases h
     cases k with
     | zero=>exact ⟨by simp only [Nd.data,List.length_take,List.length_drop];omega,by simp [Nd.kids]⟩
     | succ k=>exact ⟨by simp only [Nd.data,List.length_take,List.length_drop];omega,by simp [Nd.kids],fun x hx=>by simp [Nd.kids] at hx⟩
   split at h
   · cases h
   · rename_i ks hm
     cases h
     obtain ⟨h1,h2⟩:=A5 (fun s n r=>CR) _ _ _ hm
     have h3:((s.drop a).take size).length≤s.length:=by simp only [List.length_take,List.length_drop];omega
     cases k with
     | zero=>exact ⟨by simp [Nd.data],by simp only [Nd.kids];omega⟩
     | succ k =>
       refine ⟨by simp [Nd.data],by simp only [Nd.kids];omega,fun x hx=>?_⟩
       obtain ⟨v,r',a1,a2⟩:=h2 x hx
       exact wr (by omega) (CQ f a2 k)
theorem Cm {s:List UInt8} {n:Nd} (h:vH s=.ok n) (k:Nat):szB s.length k n:=by
 unfold vH at h
 split at h
 · cases h
 rename_i n' r hp
 split at h
 · cases h;exact CQ _ hp k
 · cases h
theorem Bf {B:Nat}:∀ {l:List Nd} {a:List Atr},jM l=some a→(∀ x∈l,szB B 2 x)→a.length≤l.length∧∀ y∈a,y.1.length≤B∧y.2.length≤B∧∀ v∈y.2,v.length≤B
 | [],a,h,_=>by cases h;simp
 | x::l,a,h,hz=>by
   rw [jM] at h
   split at h
   · cases h
   rename_i h2
   rw [Option.map_eq_some_iff] at h
   obtain ⟨r,h1,rfl⟩:=h
   obtain ⟨i1,i2⟩:=Bf h1 fun y hy=>hz y (by simp [hy])
   refine ⟨by simp;omega,fun y hy=>?_⟩
   rcases List.mem_cons.1 hy with rfl|hy
   · obtain ⟨_,_,hk⟩:=hz x (by simp)
     have k0:=yf (hk (x.kids.getD 0 a8) (by simp [show 0<x.kids.length by omega]))
     obtain ⟨_,k1,k2⟩:=hk (x.kids.getD 1 a8) (by simp [show 1<x.kids.length by omega])
     refine ⟨k0.1,by simpa [iB] using k1,fun v hv=>?_⟩
     simp only [iB,List.mem_map] at hv
     obtain ⟨w,hw,rfl⟩:=hv
     exact (yf (k2 w hw)).1
   · exact i2 y hy
theorem CA {s:List UInt8} {n:Nd} {u:Upd} (hs:s.length≤1100000) (hw:vH s=.ok n) (hu:zR n=some u):dnB u.dn∧dnB u.to∧wu u:=by
 obtain ⟨t,d,l⟩:=n
 obtain ⟨_,_,hk⟩:=Cm hw 4
 simp only [Nd.kids] at hk
 rw [AT,Fm] at hu
 split at hu
 · cases hu
 split at hu
 · cases hu
 rename_i k hnum
 simp only at hu
 have pb:∀ s,dnB (dT s).1:=fun s=>⟨by have:=(A0 s).1;omega,fun r hr=>by have:=(A0 s).2 r hr;omega⟩
 have qb:dnB (if k=4∧l.drop 2≠[] then dT ((l.drop 2).getD 0 a8).data else ([],0)).1:=by
   split
   · exact pb _
   · exact ⟨by simp,by simp⟩
 have rb:∀ x∈(if k=4 then (l.drop 2).drop 1 else l.drop 2),x∈l:=fun x hx=>by
   split at hx
   · exact List.mem_of_mem_drop (List.mem_of_mem_drop hx)
   · exact List.mem_of_mem_drop hx
 obtain ⟨q,hq⟩:∃ q,(if k=4∧l.drop 2≠[] then dT ((l.drop 2).getD 0 a8).data else ([],0))=q:=⟨_,rfl⟩
 obtain ⟨r',hr'⟩:∃ r',(if k=4 then (l.drop 2).drop 1 else l.drop 2)=r':=⟨_,rfl⟩
 rw [hq,hr'] at hu
 rw [hq] at qb
 rw [hr'] at rb
 by_cases hc:(dT (l.getD 1 a8).data).2≠0∨q.2≠0∨1<r'.length
 · rw [if_pos hc] at hu;cases hu
 rw [if_neg hc] at hu
 rcases r' with _|⟨x,tl⟩
 · cases hu
   exact ⟨pb _,qb,by simp,by simp⟩
 · simp only at hu
   rw [Option.map_eq_some_iff] at hu
   obtain ⟨a,ha,rfl⟩:=hu
   obtain ⟨_,x1,x2⟩:=hk x (rb x (by simp))
   obtain ⟨i1,i2⟩:=Bf ha x2
   refine ⟨pb _,qb,⟨by simp only;omega,fun y hy=>?_⟩⟩
   obtain ⟨j1,j2,j3⟩:=i2 y hy
   exact ⟨by omega,by omega,fun v hv=>by have:=j3 v hv;omega⟩
def rdA (p:Upd×Int):AV:=.tup [.agg (cF p.1),.int .i64 p.2]
theorem zS {s:List UInt8} (hs:s.length≤1100000) {L:List Blk} {K:AV→List Blk→Prop} (h:K (rdA (rdU s)) L):ad Tryz.prog 13 [.str s] L K:=by
 have hno:∀ e,rdU s=(xZ,e)→K (.tup [.agg [.int .i64 0,.sl [] 0 none,.sl [] 0 none,.sl [] 0 none],.int .i64 e]) L:=fun e he=>by rw [he] at h;exact h
 rcases hw:vH s with e|n
 · have h':=hid (hno e (by rw [rdU,hw]))
   have he:=AL hw
   have kk1:Hid (∀ {L:List Blk} {K:AV→List Blk→Prop},K (.tup [.agg [.int .i64 0,.str [],.sl [] 0 none],.int .i64 e]) L→ad Tryz.prog 34 [.str s] L K):=@hid _ (by intro L K q;exact AK (by omega) (by rw [hw];exact q))
   clear hno hw h
   refine ae cB (by simp [aM]) ?_
   simp only [aM,an]
   refine wk ?_
   exact au (aa rfl h'.out)
 have kk1:Hid (∀ {L:List Blk} {K:AV→List Blk→Prop},K (.tup [.agg [.int .i64 n.tag,.str n.data,.sl (ao n.kids) n.kids.length none],.int .i64 0]) L→ad Tryz.prog 34 [.str s] L K):=@hid _ (by intro L K q;exact AK (by omega) (by rw [hw,Fg,bV];exact q))
 have hz:szB 1100000 4 n:=wr (by omega) (Cm hw 4)
 rcases hy:zR n with _|u
 · have h':=hid (hno 4 (by rw [rdU,hw];simp only [hy]))
   have kk2:Hid (∀ {L:List Blk} {K:AV→List Blk→Prop},K (.tup [.agg [.int .i64 0,.sl [] 0 none,.sl [] 0 none,.sl [] 0 none],.bool false]) L→ad Tryz.prog 35 [.agg [.int .i64 n.tag,.str n.data,.sl (ao n.kids) n.kids.length none]] L K):=@hid _ (by intro L K q;rw [← bV];exact Cy hz (by rw [hy];exact q))
   clear hno hw h hy hz
   refine ae cB (by simp [aM]) ?_
   simp only [aM,an]
   refine wk ?_
   exact au (aa rfl h'.out)
 obtain ⟨hd,ht,hu⟩:=CA hs hw hy
 have hub:wj u:=⟨hd,ht,by have:=hu.1;omega,fun a ha=>by have:=(hu.2 a ha).2.1;omega⟩
 have kk2:Hid (∀ {L:List Blk} {K:AV→List Blk→Prop},K (.tup [.agg (cF u),.bool true]) L→ad Tryz.prog 35 [.agg [.int .i64 n.tag,.str n.data,.sl (ao n.kids) n.kids.length none]] L K):=@hid _ (by intro L K q;rw [← bV];exact Cy hz (by rw [hy];exact q))
 obtain ⟨⟨w,e⟩,hwe⟩:∃ q,wrU u=q:=⟨_,rfl⟩
 have kk3:Hid (∀ {L:List Blk} {K:AV→List Blk→Prop},K (.tup [.str w,.int .i64 e]) L→ad Tryz.prog 8 [.agg (cF u)] L K):=@hid _ (by intro L K q;exact yd hd ht hu (by rw [hwe];exact q))
 have hrd:rdU s=if e≠0∨w≠s then (xZ,4) else (bz u,0):=by
   rw [rdU,hw]
   simp only [hy,hwe]
 by_cases hb:e≠0∨w≠s
 · have h':=hid (hno 4 (by rw [hrd,if_pos hb]))
   clear hno hw h hy hz hrd hwe hub hd ht hu
   by_cases c1:e=0
   · have c2:¬ w=s:=by
       rcases hb with h1|h1
       · exact absurd c1 h1
       · exact h1
     clear hb
     subst c1
     refine ae cB (by simp [aM]) ?_
     simp only [aM,an]
     refine wk ?_
     exact au (aa rfl h'.out)
   · clear hb
     refine ae cB (by simp [aM]) ?_
     simp only [aM,an]
     refine wk ?_
     exact au (aa rfl h'.out)
 · rw [hrd,if_neg hb,rdA] at h
   simp only [not_or,ne_eq,Decidable.not_not] at hb
   obtain ⟨rfl,rfl⟩:=hb
   have kk4:Hid (∀ {L:List Blk} {K:AV→List Blk→Prop},K (.agg (cF (bz u))) L→ad Tryz.prog 11 [.agg (cF u)] L K):=@hid _ (by intro L K q;exact FH hub q)
   replace h:=hid h
   clear hno hw hy hz hrd hwe hub hd ht hu
   refine ae cB (by simp [aM]) ?_
   simp only [aM,an]
   refine wk ?_
   exact aa (by simp only [AV.refs,AV.refsL,cW,ft];rfl) h.out
set_option maxHeartbeats 8000000
set_option maxRecDepth 100000
theorem Fh {d:List Rdn} {cap:Option Nat} (hd:dnB d) (hp:(prS d).2=0) (h0:d≠[]) {L:List Blk} {K:AV→List Blk→Prop}
   (h:K (.tup [.ptr (L.length+3) 0,.int .i64 0]) (L++[.map [] 0,.map [] 0,.cells [dnA d,.lmap L.length,.lmap (L.length+1),.int .i64 0],.cells [.ptr (L.length+2) 0]])) :
   ad Tryz.prog 16 [.sl (d.map aC) d.length cap] L K:=by
 replace h:=hid h
 obtain ⟨⟨s,e⟩,hse⟩:∃ q,prS d=q:=⟨_,rfl⟩
 rw [hse] at hp
 simp only at hp
 subst hp
 have hl:¬ (d.length:Int)=0:=by have:=List.length_pos_iff.2 h0;omega
 have kk1:Hid (∀ {L:List Blk} {K:AV→List Blk→Prop},K (.tup [.str s,.int .i64 0]) L→ad Tryz.prog 20 [.sl (d.map aC) d.length cap] L K):=@hid _ (by intro L K q;exact yh hd.1 hd.2 (by rw [hse];exact q))
 have kk2:Hid (∀ {c:Option Nat} {L:List Blk} {K:AV→List Blk→Prop},K (dnA d) L→ad Tryz.prog 31 [.sl (d.map aC) d.length cap,.sl [] 0 c] L K):=@hid _ (by intro c L K q;exact Aa hd.1 hd.2 q)
 clear hse h0
 refine ae xy (by simp [rF]) ?_
 simp only [rF,an]
 refine wk ?_
 exact aj h.out
theorem Cr {d:List Rdn} {cap:Option Nat} (hd:dnB d) {v m2 ck:Nat} {a b c:AV} {L:List Blk} (hv:L[v]?=some (.cells [a,b,.lmap m2,c])) (hm:L[m2]?=some (.map [] ck)) {K:AV→List Blk→Prop} (h:K (.int .i64 0) L) :
   ad Tryz.prog 56 [.ptr v 0,.sl (d.map aC) d.length cap] L K:=by
 replace h:=hid h
 obtain ⟨⟨s,e⟩,hse⟩:∃ q,Ft d=q:=⟨_,rfl⟩
 have kk1:Hid (∀ {L:List Blk} {K:AV→List Blk→Prop},K (.tup [.str s,.int .i64 e]) L→ad Tryz.prog 60 [.sl (d.map aC) d.length cap] L K):=@hid _ (by intro L K q;exact Fu hd.1 hd.2 (by rw [hse];exact q))
 clear hse
 by_cases he:e=0
 · subst he
   refine ae fo (by simp [cA]) ?_
   simp only [cA,an]
   refine wk ?_
   exact aj h.out
 · refine ae fo (by simp [cA]) ?_
   simp only [cA,an]
   refine wk ?_
   exact aj h.out
theorem Cs {u:Upd} (hk:u.kind=2) (hd:dnB u.dn) {v m2 ck:Nat} {a b c:AV} {L:List Blk} (hv:L[v]?=some (.cells [a,b,.lmap m2,c])) (hm:L[m2]?=some (.map [] ck)) {K:AV→List Blk→Prop} (h:K (.int .i64 32) L) :
   ad Tryz.prog 55 [.ptr v 0,.agg (cF u)] L K:=by
 obtain ⟨k,d,t,l⟩:=u
 simp only at hk hd
 subst hk
 have hvl:v<L.length:=(List.getElem?_eq_some_iff.1 hv).1
 have hml:m2<L.length:=(List.getElem?_eq_some_iff.1 hm).1
 have kk1:Hid (∀ {X:List Blk} {K:AV→List Blk→Prop},K (.int .i64 0) (L++X)→ad Tryz.prog 56 [.ptr v 0,dnA d] (L++X) K):=@hid _ (by
   intro X K q
   exact Cr hd (by rw [List.getElem?_append_left hvl];exact hv) (by rw [List.getElem?_append_left hml];exact hm) q)
 replace h:=hid h
 clear hd hv hm
 refine ae po (by simp [d8]) ?_
 simp only [d8,an]
 refine wk ?_
 exact aa rfl h.out
theorem Fi {u:Upd} (hk:u.kind=2) (hd:dnB u.dn) {t v m2 ck:Nat} {a b c:AV} {L:List Blk} (ht:L[t]?=some (.cells [.ptr v 0])) (hv:L[v]?=some (.cells [a,b,.lmap m2,c])) (hm:L[m2]?=some (.map [] ck)) {K:AV→List Blk→Prop} (h:K (.int .i64 32) L) :
   ad Tryz.prog 39 [.ptr t 0,.agg (cF u)] L K:=by
 have htl:t<L.length:=(List.getElem?_eq_some_iff.1 ht).1
 have hvl:v<L.length:=(List.getElem?_eq_some_iff.1 hv).1
 have hml:m2<L.length:=(List.getElem?_eq_some_iff.1 hm).1
 have kk1:Hid (∀ {X:List Blk} {K:AV→List Blk→Prop},K (.int .i64 32) (L++X)→ad Tryz.prog 55 [.ptr v 0,.agg (cF u)] (L++X) K):=@hid _ (by
   intro X K q
   exact Cs hk hd (by rw [List.getElem?_append_left hvl];exact hv) (by rw [List.getElem?_append_left hml];exact hm) q)
 have g1:∀ X:List Blk,(L++X)[t]?=some (.cells [.ptr v 0]):=fun X=>by rw [List.getElem?_append_left htl];exact ht
 replace h:=hid h
 clear hd hv hm hk ht
 refine ae tZ (by simp [gg]) ?_
 simp only [gg,an]
 refine wk ?_
 exact aa rfl h.out
theorem Bz {s:List UInt8} {u:Upd} {cap:Option Nat} (hs:s.length≤1100000) (hu:rdU s=(u,0)) (hk:u.kind=2) (hd:dnB u.dn) {t v m2 ck:Nat} {a b c:AV} {L:List Blk} (ht:L[t]?=some (.cells [.ptr v 0])) (hv:L[v]?=some (.cells [a,b,.lmap m2,c])) (hm:L[m2]?=some (.map [] ck)) {K:AV→List Blk→Prop} (h:K (.tup [.int .i64 0,.int .i64 4]) L) :
   ad Tryz.prog 17 [.ptr t 0,.sl [.str s] 1 cap] L K:=by
 have htl:t<L.length:=(List.getElem?_eq_some_iff.1 ht).1
 have hvl:v<L.length:=(List.getElem?_eq_some_iff.1 hv).1
 have hml:m2<L.length:=(List.getElem?_eq_some_iff.1 hm).1
 have kk1:Hid (∀ {L:List Blk} {K:AV→List Blk→Prop},K (.tup [.agg (cF u),.int .i64 0]) L→ad Tryz.prog 13 [.str s] L K):=@hid _ (by intro L K q;exact zS hs (by rw [hu];exact q))
 have kk2:Hid (∀ {X:List Blk} {K:AV→List Blk→Prop},K (.int .i64 32) (L++X)→ad Tryz.prog 39 [.ptr t 0,.agg (cF u)] (L++X) K):=@hid _ (by
   intro X K q
   exact Fi hk hd (by rw [List.getElem?_append_left htl];exact ht) (by rw [List.getElem?_append_left hvl];exact hv) (by rw [List.getElem?_append_left hml];exact hm) q)
 replace h:=hid h
 clear hd hv hm hk ht hu
 refine ae rI (by simp [eN]) ?_
 simp only [eN,an]
 refine wk ?_
 refine ak (fun m T' L'=>m=1∧T'=[(14,.int .i64 0),(13,.int .i64 1),(12,.sl [.str s] 1 cap),(0,.ptr t 0)]∧L=L') (CutS (b:=Nat.le_refl _)) ⟨rfl,rfl,rfl⟩ ?_
 rintro _ _ _ ⟨rfl,rfl,rfl⟩
 refine wk ?_
 exact aa rfl h.out
def exD:List Rdn:=[[([100,99],[122])]]
def exU:Upd:=⟨2,exD,[],[]⟩
def exS:List UInt8:=[48,9,2,1,2,4,4,100,99,61,122]
theorem Aw:wrU exU=(exS,0):=by kernel_rfl
theorem FE:rdU exS=(exU,0):=by
 have h1:(wrU exU).2=0:=by rw [Aw]
 have:=EW (u:=exU) ⟨by simp [exU],by simp [exU]⟩ h1
 rw [Aw] at this
 exact this
theorem FF:(prS exD).2=0:=by kernel_rfl
theorem Dk:dnB exD:=⟨by simp [exD],fun r hr=>by simp [exD] at hr;subst hr;simp⟩
theorem B6 {L:List Blk} {K:AV→List Blk→Prop} (h:K (.bool true) L):ad Tryz.prog 7 [] L K:=by
 replace h:=hid h
 have kk1:Hid (∀ {L:List Blk} {K:AV→List Blk→Prop},K (.tup [.str exS,.int .i64 0]) L→ad Tryz.prog 8 [.agg [.int .i64 2,.sl [.sl [.str [100,99],.str [122]] 1 (some 1)] 1 (some 1),.sl [] 0 (some 0),.sl [] 0 (some 0)]] L K):=@hid _ (by
   intro L K q
   refine fu ?_
   have:=yd (u:=exU) (L:=L) (K:=K) Dk ⟨by simp [exU],by simp [exU]⟩ ⟨by simp [exU],by simp [exU]⟩ (by rw [Aw];exact q)
   exact this)
 have kk2:Hid (∀ {L:List Blk} {K:AV→List Blk→Prop},K (.tup [.ptr (L.length+3) 0,.int .i64 0]) (L++[.map [] 0,.map [] 0,.cells [dnA exD,.lmap L.length,.lmap (L.length+1),.int .i64 0],.cells [.ptr (L.length+2) 0]])→ad Tryz.prog 16 [.sl [.sl [.str [100,99],.str [122]] 1 (some 1)] 1 (some 1)] L K):=@hid _ (by
   intro L K q
   refine fu ?_
   have:=Fh (d:=exD) (cap:=none) (L:=L) (K:=K) Dk FF (by simp [exD]) q
   exact this)
 have kk3:Hid (∀ {L:List Blk} {c:Option Nat} {K:AV→List Blk→Prop},K (.tup [.int .i64 0,.int .i64 4]) (L++[.map [] 0,.map [] 0,.cells [dnA exD,.lmap L.length,.lmap (L.length+1),.int .i64 0],.cells [.ptr (L.length+2) 0]])→ad Tryz.prog 17 [.ptr (L.length+3) 0,.sl [.str exS] 1 c] (L++[.map [] 0,.map [] 0,.cells [dnA exD,.lmap L.length,.lmap (L.length+1),.int .i64 0],.cells [.ptr (L.length+2) 0]]) K):=@hid _ (by
   intro L c K q
   exact Bz (u:=exU) (v:=L.length+2) (m2:=L.length+1) (ck:=0) (a:=dnA exD) (b:=.lmap L.length) (c:=.int .i64 0) (by simp [exS]) FE rfl Dk (by simp) (by simp) (by simp) q)
 have hS:exS=[48,9,2,1,2,4,4,100,99,61,122]:=rfl
 rw [hS] at kk1 kk3
 clear hS
 refine ae uq (by simp [iy]) ?_
 simp only [iy,an]
 refine wk ?_
 exact aa rfl h.out
set_option maxHeartbeats 8000000
set_option maxRecDepth 100000
structure PG (u:Upd):Prop where
 dn:Fw u.dn∧∀ r∈u.dn,∀ a∈r,(a.1.length:Int)≤140737488351232
 to:Fw u.to∧∀ r∈u.to,∀ a∈r,(a.1.length:Int)≤140737488351232
 attrs:(u.attrs.length:Int)≤9223372036854775807
 names:∀ a∈u.attrs,(a.1.length:Int)≤140737488351232∧(a.2.length:Int)≤9223372036854775807
end Go.Proofs.YtgpnbkdcdmfgcaaGreat.Av
