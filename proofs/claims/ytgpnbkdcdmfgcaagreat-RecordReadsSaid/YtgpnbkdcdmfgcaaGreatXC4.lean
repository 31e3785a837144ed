/- Joined texts of the walk, made small by a program. -/
import Derived.Test.YtgpnbkdcdmfgcaaGreatXC2
import Derived.Test.YtgpnbkdcdmfgcaaGreatXC3
import Derived.Test.YtgpnbkdcdmfgcaaGreatXP5
import Derived.Test.YtgpnbkdcdmfgcaaGreatXD2
set_option linter.unusedSimpArgs false
set_option linter.unusedVariables false
namespace Go.Proofs.YtgpnbkdcdmfgcaaGreat.Av
open Go
set_option maxHeartbeats 8000000
set_option maxRecDepth 100000
def szB (B:Nat):Nat→Nd→Prop
 | 0,n=>n.data.length≤B∧n.kids.length≤B
 | k+1,n=>n.data.length≤B∧n.kids.length≤B∧∀ x∈n.kids,szB B k x
theorem CC {B:Nat}:∀ {k:Nat} {n:Nd},szB B k n→n.data.length≤B∧n.kids.length≤B
 | 0,_,h=>h
 | _+1,_,h=>⟨h.1,h.2.1⟩
def I8:Option Upd→AV
 | none=>.tup [.agg [.int .i64 0,.sl [] 0 none,.sl [] 0 none,.sl [] 0 none],.bool false]
 | some u=>.tup [.agg (gk u),.bool true]
theorem eQ {l:List Nd} {k:Nat} (h:k<l.length):(ai l).getD (k * 3+1) .undef=.str (l.getD k aB).data:=by
 have h3:=congrArg (fun l=>l[1]?) (db h)
 simp only [List.getElem?_take_of_lt (show 1<3 by omega),List.getElem?_drop] at h3
 rw [List.getD_eq_getElem?_getD,h3,aP];rfl
theorem Ea {l:List Nd} {k:Nat} (h:k<l.length):(ai l).getD (k * 3+2) .undef=.sl (ai (l.getD k aB).kids) (l.getD k aB).kids.length none:=by
 have h3:=congrArg (fun l=>l[2]?) (db h)
 simp only [List.getElem?_take_of_lt (show 2<3 by omega),List.getElem?_drop] at h3
 rw [List.getD_eq_getElem?_getD,h3,aP];rfl
theorem AI:∀ (l:List Nd) (k:Nat),(ai l).drop (k * 3)=ai (l.drop k)
 | [],k=>by
   have e:ai []=[]:=by rw [ai]
   rw [List.drop_nil,e,List.drop_nil]
 | n::l,0=>by simp
 | n::l,k+1=>by
   rw [List.drop_succ_cons,← AI l k,ai,List.drop_append,aP]
   rw [List.drop_eq_nil_of_le (by simp;omega),List.nil_append]
   congr 1
   simp;omega
def LF (l:List Nd):Option Upd :=
 if l.length<2∨4<l.length then none else
 match Gq (l.getD 0 aB).data with
 | none=>none
 | some k =>
   let p:=c8 (l.getD 1 aB).data
   let r:=l.drop 2
   let q:=if k=4∧r≠[] then c8 (r.getD 0 aB).data else ([],0)
   let r':=if k=4 then r.drop 1 else r
   if p.2≠0∨q.2≠0∨1<r'.length then none else
   match r' with
   | []=>some ⟨k,p.1,q.1,[]⟩
   | x::_=>(m6 x.kids).map fun a=>⟨k,p.1,q.1,a⟩
theorem Hf (t:Int) (d:List UInt8) (l:List Nd):Eu (.mk t d l)=LF l:=rfl
theorem I7 {n:Nd} (hz:szB 1100000 4 n) {L:List Blk} {K:AV→List Blk→Prop} (h:K (I8 (Eu n)) L):ad Tryz.prog 35 [.agg (ndA n)] L K:=by
 obtain ⟨tg,dt,l⟩:=n
 rw [aM]
 rw [Hf,LF] at h
 obtain ⟨_,hzl,hzk⟩:=hz
 simp only [Nd.kids] at hzl hzk
 by_cases hl:l.length<2∨4<l.length
 · rw [if_pos hl] at h
   simp only [I8] at h
   replace h:=hid h
   clear hzk
   rcases hl with h2|h4
   · have g1:(l.length:Int)<2:=by omega
     clear h2
     refine ac dK (by simp [bH]) ?_
     simp only [bH,aj]
     refine wk ?_
     exact ao (aa rfl h.out)
   · have g1:¬ (l.length:Int)<2:=by omega
     have g2:(4:Int)<(l.length:Int):=by omega
     clear h4
     refine ac dK (by simp [bH]) ?_
     simp only [bH,aj]
     refine wk ?_
     exact ao (aa rfl h.out)
 rw [if_neg hl] at h
 have g1:¬ (l.length:Int)<2:=by omega
 have g2:¬ (4:Int)<(l.length:Int):=by omega
 have g3:(0:Int)<(l.length:Int):=by omega
 have g4:(1:Int)<(l.length:Int):=by omega
 have g5:(2:Int)≤(l.length:Int):=by omega
 have f0:(ai l).getD 1 .undef=.str (l.getD 0 aB).data:=eQ (k:=0) (by omega)
 have f1:(ai l).getD 4 .undef=.str (l.getD 1 aB).data:=eQ (k:=1) (by omega)
 have f2:=bU l
 have f3:(ai l).drop 6=ai (l.drop 2):=AI l 2
 have b0:1<(ai l).length:=by omega
 have b1:4<(ai l).length:=by omega
 obtain ⟨n0,hn0⟩:∃ x,l.getD 0 aB=x:=⟨_,rfl⟩
 obtain ⟨n1,hn1⟩:∃ x,l.getD 1 aB=x:=⟨_,rfl⟩
 have z0:=CC (hzk n0 (by rw [← hn0];simp [show 0<l.length by omega]))
 rw [hn0] at f0 h
 rw [hn1] at f1 h
 rcases hnum:Gq n0.data with _|k
 · rw [hnum] at h
   simp only [I8] at h
   replace h:=hid h
   have kk1:Hid (∀ {L:List Blk} {K:AV→List Blk→Prop},K (.tup [.int .i64 0,.bool false]) L→ad Tryz.prog 51 [.str n0.data] L K):=@hid _ (by intro L K q;exact D9 z0.1 (by rw [hnum];exact q))
   clear hzk hnum hn0 hn1 z0 hl
   refine ac dK (by simp [bH]) ?_
   simp only [bH,aj]
   refine wk ?_
   exact ao (aa rfl h.out)
 rw [hnum] at h
 simp only at h
 have kk1:Hid (∀ {L:List Blk} {K:AV→List Blk→Prop},K (.tup [.int .i64 k,.bool true]) L→ad Tryz.prog 51 [.str n0.data] L K):=@hid _ (by intro L K q;exact D9 z0.1 (by rw [hnum];exact q))
 obtain ⟨⟨d1,e1⟩,hp1⟩:∃ q,c8 n1.data=q:=⟨_,rfl⟩
 have kk2:Hid (∀ {L:List Blk} {K:AV→List Blk→Prop},K (.tup [dnA d1,.int .i64 e1]) L→ad Tryz.prog 52 [.str n1.data] L K):=@hid _ (by intro L K q;exact Hk (by rw [hp1];exact q))
 rw [hp1] at h
 simp only at h
 obtain ⟨r,hr⟩:∃ r,l.drop 2=r:=⟨_,rfl⟩
 have hrl:r.length+2=l.length:=by rw [← hr];simp;omega
 have hzr:∀ x∈r,szB 1100000 3 x:=fun x hx=>hzk x (by rw [← hr] at hx;exact List.mem_of_mem_drop hx)
 rw [hr] at f3 h
 have f4:((l.length:Int)).toNat - 2=r.length:=by omega
 have f5:(ai r).take (r.length * 3)=ai r:=by rw [← bU r,List.take_length]
 have f6:l.length - 2=r.length:=by omega
 clear hzk hnum hn0 hn1 z0 hl hp1 hr
 replace hzr:=hid hzr
 refine ac dK (by simp [bH]) ?_
 simp only [bH,aj]
 iterate 42 first
   | refine cc ?_
   | (first|refine bs (by kernel_rfl) ?_|refine aT (by kernel_rfl) ?_|refine aU ?_|refine dw ?_|refine bY (fun _=>?_)|refine aF ?_|refine bv ?_|refine kk1.out ?_|refine kk2.out ?_|refine bz (kk1.out ⟨rfl,rfl⟩) (kk1.out ⟨rfl,rfl⟩) ?_|refine bz (kk2.out ⟨rfl,rfl⟩) (kk2.out ⟨rfl,rfl⟩) ?_|refine aD (kk1.out ⟨rfl,rfl⟩) ?_|refine aD (kk2.out ⟨rfl,rfl⟩) ?_)
     simp (config:={ maxSteps:=2000000 }) only [Kon,push_cast,reduceIte,Nat.reduceEqDiff,Nat.reduceAdd,Nat.reduceMul,Nat.reduceSub,Nat.reduceLT,Nat.reduceLeDiff,Int.reduceLT,Int.reduceLE,Int.reduceAdd,Int.reduceSub,Int.reduceNeg,Int.reduceToNat,Int.reduceEq,reduceCtorEq, *]
   | (first|refine bo (by kernel_rfl) ?_|refine bt ?_|refine bu ?_|refine ce (aE ?_))
     simp only [push_cast,reduceIte,Nat.reduceEqDiff,Nat.reduceAdd,Nat.reduceMul,Nat.reduceSub,Nat.reduceLT,Nat.reduceLeDiff,Int.reduceLT,Int.reduceLE,Int.reduceAdd,Int.reduceSub,Int.reduceNeg,Int.reduceToNat,Int.reduceEq,reduceCtorEq, *]
   | exact bZ
   | first|apply b9|apply bp|apply ca|apply bq|apply cb|apply br
   | refine aX ?_
   | first|refine aV rfl ?_|refine aW rfl ?_|refine aA rfl ?_ ?_|refine ba rfl (fun _=>?_) (fun _=>?_)|refine a8 rfl (fun _=>?_) (fun _=>?_)
   | ((first|refine ay (fun _=>?_) (fun _=>?_)|refine aC (fun _=>?_) (fun _=>?_))<;>try simp (config:={ maxSteps:=2000000 }) only [Kon,push_cast,reduceIte,Nat.reduceEqDiff,Nat.reduceAdd,Nat.reduceMul,Nat.reduceSub,Nat.reduceLT,Nat.reduceLeDiff,Int.reduceLT,Int.reduceLE,Int.reduceAdd,Int.reduceSub,Int.reduceNeg,Int.reduceToNat,Int.reduceEq,reduceCtorEq, *])
   | refine And.intro trivial ?_
   | refine And.intro (by omega) ?_
   | refine aY rfl (fun _=>?_) (fun _=>?_)
   | refine And.intro ?_ ?_
 obtain ⟨q,hq⟩:∃ q,(if k=4∧r≠[] then c8 (r.getD 0 aB).data else ([],0))=q:=⟨_,rfl⟩
 obtain ⟨d2,e2⟩:=q
 obtain ⟨r',hr'⟩:∃ r',(if k=4 then r.drop 1 else r)=r':=⟨_,rfl⟩
 rw [hq,hr'] at h
 simp only at h
 have hzr':∀ x∈r',szB 1100000 3 x:=fun x hx=>by
   rw [← hr'] at hx
   split at hx
   · exact hzr.out x (List.mem_of_mem_drop hx)
   · exact hzr.out x hx
 replace h:=hid h
 refine nH (fun T2 L2=>∃ ct:Option Nat,T2=[(10,.sl (ai r') r'.length none),(9,.int .i64 e2),(8,.int .i64 e1),(7,.ptr (L.length+2) 0),(3,.bool false),(2,.ptr (L.length+1) 0)]∧L2=L++[.cells [.int .i64 tg,.str dt,.sl (ai l) l.length none],.cells [.int .i64 0,.sl [] 0 (some 0),.sl [] 0 (some 0),.sl [] 0 (some 0)],.cells [.int .i64 k,dnA d1,.sl (d2.map aH) d2.length ct,.sl [] 0 (some 0)]]) ?_ ?_
 · clear f0 f1 f2 f3 f4 b0 b1 kk1 kk2
   by_cases h4:k=4
   · rw [if_pos h4] at hr'
     by_cases hr0:r=[]
     · rw [if_neg (fun e=>e.2 hr0)] at hq
       cases hq
       subst hr0
       subst hr'
       subst h4
       have e0:ai []=[]:=by rw [ai]
       refine wk ?_
       exact eO [(10,.sl (ai []) ([]:List Nd).length none),(9,.int .i64 0),(8,.int .i64 e1),(7,.ptr (L.length+2) 0),(3,.bool false),(2,.ptr (L.length+1) 0)] _ (vi (eT rfl (by rw [e0];rfl) (by repeat' first|exact ve|refine eT rfl rfl ?_)) (by simp)) ⟨some 0,rfl,rfl⟩
     · rw [if_pos ⟨h4,hr0⟩] at hq
       have hrp:0<r.length:=List.length_pos_iff.2 hr0
       have p1:(0:Int)<(r.length:Int):=by omega
       have p2:(1:Int)≤(r.length:Int):=by omega
       have f0:(ai r).getD 1 .undef=.str (r.getD 0 aB).data:=eQ (k:=0) hrp
       have f2:=bU r
       have f3:(ai r).drop 3=ai (r.drop 1):=AI r 1
       have b1:1<(ai r).length:=by omega
       have f7:r'.length=r.length - 1:=by rw [← hr'];simp
       have f8:(ai r').take ((r.length - 1) * 3)=ai r':=by rw [← f7,← bU r',List.take_length]
       obtain ⟨n2,hn2⟩:∃ x,r.getD 0 aB=x:=⟨_,rfl⟩
       rw [hn2] at f0 hq
       rw [hr'] at f3
       have kk1:Hid (∀ {L:List Blk} {K:AV→List Blk→Prop},K (.tup [dnA d2,.int .i64 e2]) L→ad Tryz.prog 52 [.str n2.data] L K):=@hid _ (by intro L K q;exact Hk (by rw [hq];exact q))
       have f9:=bJ d2
       clear hq hr' hn2 hr0
       subst h4
       refine wk ?_
       exact eO _ _ (CutL (b:=by simp)) ⟨none,rfl,rfl⟩
   · rw [if_neg h4] at hr'
     rw [if_neg (fun e=>h4 e.1)] at hq
     cases hq
     subst hr'
     refine wk ?_
     exact eO _ _ (CutL (b:=by simp)) ⟨some 0,rfl,rfl⟩
 rintro _ _ ⟨ct,rfl,rfl⟩ -
 clear hq hr' hzr f0 f1 f2 f3 f4 f5 f6 b0 b1 kk1 kk2 hrl g1 g2 g3 g4 g5
 by_cases hbad:e1≠0∨e2≠0∨1<r'.length
 · have h':=h.out
   rw [if_pos hbad] at h'
   simp only [I8] at h'
   replace h':=hid h'
   have hb:e1≠0∨e2≠0∨(1:Int)<(r'.length:Int):=by omega
   clear h hbad hzr'
   by_cases c1:e1=0
   · by_cases c2:e2=0
     · have c3:(1:Int)<(r'.length:Int):=by omega
       clear hb
       subst c1
       subst c2
       refine wk ?_
       exact ao (aa rfl h'.out)
     · clear hb
       subst c1
       refine wk ?_
       exact ao (aa rfl h'.out)
   · clear hb
     refine wk ?_
     exact ao (aa rfl h'.out)
 have h':=h.out
 rw [if_neg hbad] at h'
 have hgood:e1=0∧e2=0∧r'.length≤1:=by omega
 obtain ⟨rfl,rfl,hr1⟩:=hgood
 clear h hbad
 rcases r' with _|⟨x,r2⟩
 · simp only [I8] at h'
   replace h':=hid h'
   have e0:ai []=[]:=by rw [ai]
   clear hzr'
   refine wk ?_
   refine ak (fun m T' L'=>m=0∧T'=[(86,.int .i64 0),(85,.int .i64 0),(84,.sl [] 0 none),(7,.ptr (L.length+2) 0),(2,.ptr (L.length+1) 0)]∧L'=L++[.cells [.int .i64 tg,.str dt,.sl (ai l) l.length none],.cells [.int .i64 0,.sl [] 0 (some 0),.sl [] 0 (some 0),.sl [] 0 (some 0)],.cells [.int .i64 k,dnA d1,.sl (d2.map aH) d2.length ct,.sl [] 0 (some 0)]]) (CutS (b:=by simp)) ⟨rfl,rfl,rfl⟩ ?_
   rintro _ _ _ ⟨rfl,rfl,rfl⟩
   refine wk ?_
   refine ao ?_
   simp only [AV.frz,AV.frzL,bJ]
   refine aa ?_ h'.out
   simp only [AV.refs,AV.refsL,dm];rfl
 have hr2:r2=[]:=by
   simp at hr1
   exact hr1
 subst hr2
 obtain ⟨_,hxl,hxk⟩:=hzr' x (by simp)
 clear hzr' hr1
 simp only at h'
 obtain ⟨ks,hks⟩:∃ ks,x.kids=ks:=⟨_,rfl⟩
 rw [hks] at h' hxl hxk
 obtain ⟨A,hA⟩:∃ A,m6 ks=A:=⟨_,rfl⟩
 rw [hA] at h'
 have hno:A=none→K (.tup [.agg [.int .i64 0,.sl [] 0 none,.sl [] 0 none,.sl [] 0 none],.bool false]) L:=fun e=>by rw [e] at h';exact h'
 have hyes:∀ a,A=some a→K (.tup [.agg [.int .i64 k,dnA d1,dnA d2,.sl (bI a) a.length none],.bool true]) L:=fun a e=>by rw [e] at h';exact h'
 have hrow:ai [x]=[.int .i64 x.tag,.str x.data,.sl (ai ks) ks.length none]:=by
   rw [ai,aP,hks,ai,List.append_nil]
 rw [hrow]
 replace hno:=hid hno
 replace hyes:=hid hyes
 replace hxk:=hid hxk
 obtain ⟨N0,hN0⟩:∃ b,Blk.cells [.int .i64 tg,.str dt,.sl (ai l) l.length none]=b:=⟨_,rfl⟩
 rw [hN0]
 clear h' hks hrow hN0
 refine wk ?_
 refine fo (L.length+2) 3 2 (c:=[.int .i64 k,dnA d1,.sl (d2.map aH) d2.length ct,.sl [] 0 (some 0)]) (l:=[]) (n:=0) (by simp) rfl (Nat.zero_mul 2).symm ?_
 refine ak (fun m T' L'=>∃ (i:Nat) (acc:List Atr) (D:List AV) (X:List Blk),m=1 - i∧i≤1∧Hid (if i=0 then acc=[] else A=some acc)∧Hid (D=bI acc)∧T'=[(86,.int .i64 (i:Int)),(85,.int .i64 1),(84,.sl [.int .i64 x.tag,.str x.data,.sl (ai ks) ks.length none] 1 none),(7,.ptr (L.length+2) 0),(3,.bool false),(2,.ptr (L.length+1) 0)]∧L'=L++(N0 :: .cells [.int .i64 0,.sl [] 0 (some 0),.sl [] 0 (some 0),.sl [] 0 (some 0)] :: .cells [.int .i64 k,dnA d1,.sl (d2.map aH) d2.length ct,.gsl D acc.length (L.length+3) 2] :: .spare acc.length 2::X)) (CutS (b:=by simp)) ⟨0,[],[],[],rfl,by omega,hid (by simp),hid rfl,rfl,by simp⟩ ?_
 rintro _ _ _ ⟨i,acc,D,X,rfl,hi,hI,hD,rfl,rfl⟩
 by_cases hi0:i=0
 rotate_left
 · have hi1:i=1:=by omega
   subst hi1
   have hIA:=hI.out
   rw [if_neg (by omega)] at hIA
   have h':=hid (hyes.out acc hIA)
   have hD2:=hD.out
   have e0:=vd acc
   subst hD2
   clear hI hD hIA hyes hno
   refine wk ?_
   refine ao ?_
   simp only [AV.frz,AV.frzL,bJ,e0]
   refine aa ?_ h'.out
   simp only [AV.refs,AV.refsL,dm,m7];rfl
 subst hi0
 have hacc:=hI.out
 rw [if_pos rfl] at hacc
 subst hacc
 have hD2:=hD.out
 have e00:bI []=[]:=rfl
 rw [e00] at hD2
 subst hD2
 clear hI hD
 refine wk ?_
 refine ak (fun m T' L'=>∃ (acc:List Atr) (j:Nat) (D:List AV) (Y:List Blk),m=ks.length - j∧j≤ks.length∧X.length+1≤Y.length∧Hid ((m6 (ks.drop j)).map (fun r=>acc++r)=A)∧Hid (D=bI acc∧j=acc.length)∧T'=[(93,.int .i64 (j:Int)),(92,.int .i64 ks.length),(91,.sl (ai ks) ks.length none),(86,.int .i64 0),(85,.int .i64 1),(84,.sl [.int .i64 x.tag,.str x.data,.sl (ai ks) ks.length none] 1 none),(7,.ptr (L.length+2) 0),(3,.bool false),(2,.ptr (L.length+1) 0)]∧L'=L++(N0 :: .cells [.int .i64 0,.sl [] 0 (some 0),.sl [] 0 (some 0),.sl [] 0 (some 0)] :: .cells [.int .i64 k,dnA d1,.sl (d2.map aH) d2.length ct,.gsl D j (L.length+3) 2] :: .spare j 2::Y)) (CutS (b:=by simp)) ⟨[],0,[],_,rfl,Nat.zero_le _,by simp,hid (by rw [List.drop_zero,hA];cases A<;>rfl),hid ⟨rfl,rfl⟩,rfl,rfl⟩ ?_
 rintro _ _ _ ⟨acc,j,D,Y,rfl,hj,hXY,hJ,hDj,rfl,rfl⟩
 by_cases hjl:j<ks.length
 · have j1:(j:Int)<(ks.length:Int):=by omega
   have j2:IntKind.i64.wrap ((j:Int)+1)=(j:Int)+1:=ab (by omega) (by omega)
   have e3:=db hjl
   have e4:j * 3+3≤(ai ks).length:=by rw [bU];omega
   obtain ⟨a,ha⟩:∃ a,ks.getD j aB=a:=⟨_,rfl⟩
   have hdr:ks.drop j=a::ks.drop (j+1):=by rw [List.drop_eq_getElem_cons hjl,← ha];simp [hjl]
   obtain ⟨_,hal,hak⟩:=hxk.out a (by rw [← ha];simp [hjl])
   rw [ha,aP] at e3
   have hJ2:=hJ.out
   rw [hdr,m6] at hJ2
   clear hJ hdr ha hA
   by_cases h2:a.kids.length=2
   rotate_left
   · rw [if_pos h2] at hJ2
     have h':=hid (hno.out hJ2.symm)
     have g2:¬ (a.kids.length:Int)=2:=by omega
     clear hJ2 h2 hno hyes
     refine wk ?_
     exact ao (aa rfl h'.out)
   rw [if_neg (by omega)] at hJ2
   have g2:(a.kids.length:Int)=2:=by omega
   have f0:(ai a.kids).getD 1 .undef=.str (a.kids.getD 0 aB).data:=eQ (k:=0) (by omega)
   have f1:(ai a.kids).getD 5 .undef=.sl (ai (a.kids.getD 1 aB).kids) (a.kids.getD 1 aB).kids.length none:=Ea (k:=1) (by omega)
   have b0:1<(ai a.kids).length:=by rw [bU];omega
   have b1:5<(ai a.kids).length:=by rw [bU];omega
   obtain ⟨nm,hnm⟩:∃ s,(a.kids.getD 0 aB).data=s:=⟨_,rfl⟩
   obtain ⟨vk,hvk⟩:∃ s,(a.kids.getD 1 aB).kids=s:=⟨_,rfl⟩
   have hvl:vk.length≤1100000:=by
     rw [← hvk]
     exact (CC (hak _ (by simp [show 1<a.kids.length by omega]))).2
   rw [hnm] at f0 hJ2
   rw [hvk] at f1 hJ2
   have hJ3:(m6 (ks.drop (j+1))).map (fun r=>(acc++[(nm,eo vk)])++r)=A:=by
     rw [← hJ2]
     cases m6 (ks.drop (j+1))<;>simp
   replace hJ3:=hid hJ3
   clear hJ2 hnm hvk hak hno hyes h2
   refine wk ?_
   refine fo (L.length+(Y.length+1+1+1+1+1)) 1 1 (c:=[.str nm,.sl [] 0 (some 0)]) (l:=[]) (n:=0) (by simp) rfl (Nat.zero_mul 1).symm ?_
   refine ak (fun m T' L'=>∃ (p:Nat) (E:List AV) (Z:List Blk),m=vk.length - p∧p≤vk.length∧Hid (E=(eo (vk.take p)).map AV.str)∧T'=[(114,.int .i64 (p:Int)),(113,.int .i64 vk.length),(112,.sl (ai vk) vk.length none),(15,.ptr (L.length+(Y.length+1+1+1+1+1)) 0),(93,.int .i64 (j:Int)),(92,.int .i64 ks.length),(91,.sl (ai ks) ks.length none),(86,.int .i64 0),(85,.int .i64 1),(84,.sl [.int .i64 x.tag,.str x.data,.sl (ai ks) ks.length none] 1 none),(7,.ptr (L.length+2) 0),(3,.bool false),(2,.ptr (L.length+1) 0)]∧L'=L++(N0 :: .cells [.int .i64 0,.sl [] 0 (some 0),.sl [] 0 (some 0),.sl [] 0 (some 0)] :: .cells [.int .i64 k,dnA d1,.sl (d2.map aH) d2.length ct,.gsl D j (L.length+3) 2] :: .spare j 2::(Y++(.cells [.int .i64 a.tag,.str a.data,.sl (ai a.kids) a.kids.length none] :: .cells [.str nm,.gsl E p (L.length+(Y.length+1+1+1+1+1+1)) 1] :: .spare p 1::Z)))) (CutS (b:=by simp)) ⟨0,[],[],rfl,Nat.zero_le _,hid rfl,rfl,by simp⟩ ?_
   rintro _ _ _ ⟨p,E,Z,rfl,hp,hE,rfl,rfl⟩
   by_cases hpl:p<vk.length
   · have p1:(p:Int)<(vk.length:Int):=by omega
     have p2:IntKind.i64.wrap ((p:Int)+1)=(p:Int)+1:=ab (by omega) (by omega)
     have e5:=db hpl
     have e6:p * 3+3≤(ai vk).length:=by rw [bU];omega
     obtain ⟨v,hv⟩:∃ v,vk.getD p aB=v:=⟨_,rfl⟩
     rw [hv,aP] at e5
     have htk:(eo (vk.take (p+1))).map AV.str=E++[.str v.data]:=by
       rw [hE.out,List.take_succ_eq_append_getElem hpl,show vk[p]=v by rw [← hv];simp [hpl]]
       simp [eo]
     replace htk:=hid htk
     clear hv hE
     refine wk ?_
     exact an _ _ _ (by omega) (CutL (b:=by simp)) ⟨p+1,_,Z++[.cells [.int .i64 v.tag,.str v.data,.sl (ai v.kids) v.kids.length none]],rfl,hpl,hid htk.out.symm,rfl,by simp⟩
   · have hpe:p=vk.length:=by omega
     subst hpe
     have p1:¬ (vk.length:Int)<(vk.length:Int):=by omega
     have hE2:=hE.out
     rw [List.take_length] at hE2
     have e5:AV.frzL E=E:=by rw [hE2];exact At _
     have hDn:D++[.str nm,.sl E vk.length none]=bI (acc++[(nm,eo vk)]):=by
       rw [hDj.out.1,Dx,hE2]
       simp only [bI,List.flatMap_cons,List.flatMap_nil,List.append_nil,atA,eo,List.length_map]
     replace hDn:=hid hDn
     clear hE hE2
     refine wk ?_
     refine an _ _ _ (by omega) (CutL (b:=by simp;omega)) ⟨acc++[(nm,eo vk)],j+1,_,_,rfl,hjl,?_,hJ3,hid ⟨hDn.out,by rw [hDj.out.2];simp⟩,rfl,rfl⟩
     simp;omega
 · have hje:j=ks.length:=by omega
   subst hje
   have j1:¬ (ks.length:Int)<(ks.length:Int):=by omega
   have hJ2:=hJ.out
   rw [List.drop_length,m6] at hJ2
   simp only [Option.map_some,List.append_nil] at hJ2
   replace hJ2:=hid hJ2
   clear hJ
   refine wk ?_
   exact an _ _ _ (by omega) (CutL (b:=by simp)) ⟨1,acc,D,Y,rfl,by omega,hid (by rw [if_neg (by omega)];exact hJ2.out.symm),hid hDj.out.1,rfl,by rw [← hDj.out.2]⟩
set_option maxHeartbeats 8000000
set_option maxRecDepth 100000
theorem yy {B C:Nat} (h:B≤C):∀ {k:Nat} {n:Nd},szB B k n→szB C k n
 | 0,_,hz=>⟨by have:=hz.1;omega,by have:=hz.2;omega⟩
 | _+1,_,hz=>⟨by have:=hz.1;omega,by have:=hz.2.1;omega,fun x hx=>yy h (hz.2.2 x hx)⟩
theorem Hr {p:List UInt8→Except Int (Nd×List UInt8)} (hp:∀ s n r,p s=.ok (n,r)→r.length<s.length):∀ (F:Nat) (u:List UInt8) (l:List Nd),fc p F u=.ok l→l.length≤u.length∧∀ x∈l,∃ v r,v.length≤u.length∧p v=.ok (x,r)
 | 0,[],l,h=>by cases h;simp
 | 0,_::_,l,h=>by cases h;simp
 | F+1,[],l,h=>by cases h;simp
 | F+1,c::u,l,h=>by
   rw [EE (by simp)] at h
   split at h
   · cases h
   rename_i n r hpu
   split at h
   · cases h
   rename_i l' hm
   cases h
   have hlt:=hp _ _ _ hpu
   obtain ⟨h1,h2⟩:=Hr hp F r l' hm
   refine ⟨by simp at hlt ⊢;omega,fun x hx=>?_⟩
   rcases List.mem_cons.1 hx with rfl|hx
   · exact ⟨_,_,Nat.le_refl _,hpu⟩
   · obtain ⟨v,r',a,b⟩:=h2 x hx
     exact ⟨v,r',by omega,b⟩
theorem Jl:∀ (f:Nat) {s:List UInt8} {n:Nd} {r:List UInt8},dq f s=.ok (n,r)→∀ k,szB s.length k n
 | 0,s,n,r,h,k=>by cases h
 | f+1,s,n,r,h,k=>by
   rw [dq] at h
   split at h
   · cases h
   simp only at h
   split at h
   · cases h
   split at h
   · cases h
   rename_i size a hb
   split at h
   · cases h
   rename_i hsz
   split at h
   · cases h
     cases k with
     | zero=>exact ⟨by simp only [Nd.data,List.length_take,List.length_drop];omega,by simp [Nd.kids]⟩
     | succ k=>exact ⟨by simp only [Nd.data,List.length_take,List.length_drop];omega,by simp [Nd.kids],fun x hx=>by simp [Nd.kids] at hx⟩
   split at h
   · cases h
   · rename_i ks hm
     cases h
     obtain ⟨h1,h2⟩:=Hr (fun s n r=>Jm) _ _ _ hm
     have h3:((s.drop a).take size).length≤s.length:=by simp only [List.length_take,List.length_drop];omega
     cases k with
     | zero=>exact ⟨by simp [Nd.data],by simp only [Nd.kids];omega⟩
     | succ k =>
       refine ⟨by simp [Nd.data],by simp only [Nd.kids];omega,fun x hx=>?_⟩
       obtain ⟨v,r',a1,a2⟩:=h2 x hx
       exact yy (by omega) (Jl f a2 k)
theorem F7 {s:List UInt8} {n:Nd} (h:m8 s=.ok n) (k:Nat):szB s.length k n:=by
 unfold m8 at h
 split at h
 · cases h
 rename_i n' r hp
 split at h
 · cases h;exact Jl _ hp k
 · cases h
theorem HB {B:Nat}:∀ {l:List Nd} {a:List Atr},m6 l=some a→(∀ x∈l,szB B 2 x)→a.length≤l.length∧∀ y∈a,y.1.length≤B∧y.2.length≤B∧∀ v∈y.2,v.length≤B
 | [],a,h,_=>by cases h;simp
 | x::l,a,h,hz=>by
   rw [m6] at h
   split at h
   · cases h
   rename_i h2
   rw [Option.map_eq_some_iff] at h
   obtain ⟨r,h1,rfl⟩:=h
   obtain ⟨i1,i2⟩:=HB h1 fun y hy=>hz y (by simp [hy])
   refine ⟨by simp;omega,fun y hy=>?_⟩
   rcases List.mem_cons.1 hy with rfl|hy
   · obtain ⟨_,_,hk⟩:=hz x (by simp)
     have k0:=CC (hk (x.kids.getD 0 aB) (by simp [show 0<x.kids.length by omega]))
     obtain ⟨_,k1,k2⟩:=hk (x.kids.getD 1 aB) (by simp [show 1<x.kids.length by omega])
     refine ⟨k0.1,by simpa [eo] using k1,fun v hv=>?_⟩
     simp only [eo,List.mem_map] at hv
     obtain ⟨w,hw,rfl⟩:=hv
     exact (CC (k2 w hw)).1
   · exact i2 y hy
theorem Et {s:List UInt8} {n:Nd} {u:Upd} (hs:s.length≤1100000) (hw:m8 s=.ok n) (hu:Eu n=some u):dnB u.dn∧dnB u.to∧rr u:=by
 obtain ⟨t,d,l⟩:=n
 obtain ⟨_,_,hk⟩:=F7 hw 4
 simp only [Nd.kids] at hk
 rw [Hf,LF] at hu
 split at hu
 · cases hu
 split at hu
 · cases hu
 rename_i k hnum
 simp only at hu
 have pb:∀ s,dnB (c8 s).1:=fun s=>⟨by have:=(Hm s).1;omega,fun r hr=>by have:=(Hm s).2 r hr;omega⟩
 have qb:dnB (if k=4∧l.drop 2≠[] then c8 ((l.drop 2).getD 0 aB).data else ([],0)).1:=by
   split
   · exact pb _
   · exact ⟨by simp,by simp⟩
 have rb:∀ x∈(if k=4 then (l.drop 2).drop 1 else l.drop 2),x∈l:=fun x hx=>by
   split at hx
   · exact List.mem_of_mem_drop (List.mem_of_mem_drop hx)
   · exact List.mem_of_mem_drop hx
 obtain ⟨q,hq⟩:∃ q,(if k=4∧l.drop 2≠[] then c8 ((l.drop 2).getD 0 aB).data else ([],0))=q:=⟨_,rfl⟩
 obtain ⟨r',hr'⟩:∃ r',(if k=4 then (l.drop 2).drop 1 else l.drop 2)=r':=⟨_,rfl⟩
 rw [hq,hr'] at hu
 rw [hq] at qb
 rw [hr'] at rb
 by_cases hc:(c8 (l.getD 1 aB).data).2≠0∨q.2≠0∨1<r'.length
 · rw [if_pos hc] at hu;cases hu
 rw [if_neg hc] at hu
 rcases r' with _|⟨x,tl⟩
 · cases hu
   exact ⟨pb _,qb,by simp,by simp⟩
 · simp only at hu
   rw [Option.map_eq_some_iff] at hu
   obtain ⟨a,ha,rfl⟩:=hu
   obtain ⟨_,x1,x2⟩:=hk x (rb x (by simp))
   obtain ⟨i1,i2⟩:=HB ha x2
   refine ⟨pb _,qb,⟨by simp only;omega,fun y hy=>?_⟩⟩
   obtain ⟨j1,j2,j3⟩:=i2 y hy
   exact ⟨by omega,by omega,fun v hv=>by have:=j3 v hv;omega⟩
def rdA (p:Upd×Int):AV:=.tup [.agg (gk p.1),.int .i64 p.2]
theorem Jg {s:List UInt8} (hs:s.length≤1100000) {L:List Blk} {K:AV→List Blk→Prop} (h:K (rdA (rdU s)) L):ad Tryz.prog 13 [.str s] L K:=by
 have hno:∀ e,rdU s=(uN,e)→K (.tup [.agg [.int .i64 0,.sl [] 0 none,.sl [] 0 none,.sl [] 0 none],.int .i64 e]) L:=fun e he=>by rw [he] at h;exact h
 rcases hw:m8 s with e|n
 · have h':=hid (hno e (by rw [rdU,hw]))
   have he:=G7 hw
   have kk1:Hid (∀ {L:List Blk} {K:AV→List Blk→Prop},K (.tup [.agg [.int .i64 0,.str [],.sl [] 0 none],.int .i64 e]) L→ad Tryz.prog 34 [.str s] L K):=@hid _ (by intro L K q;exact G6 (by omega) (by rw [hw];exact q))
   clear hno hw h
   refine ac c7 (by simp [bg]) ?_
   simp only [bg,aj]
   refine wk ?_
   exact ao (aa rfl h'.out)
 have kk1:Hid (∀ {L:List Blk} {K:AV→List Blk→Prop},K (.tup [.agg [.int .i64 n.tag,.str n.data,.sl (ai n.kids) n.kids.length none],.int .i64 0]) L→ad Tryz.prog 34 [.str s] L K):=@hid _ (by intro L K q;exact G6 (by omega) (by rw [hw,HJ,aP];exact q))
 have hz:szB 1100000 4 n:=yy (by omega) (F7 hw 4)
 rcases hy:Eu n with _|u
 · have h':=hid (hno 4 (by rw [rdU,hw];simp only [hy]))
   have kk2:Hid (∀ {L:List Blk} {K:AV→List Blk→Prop},K (.tup [.agg [.int .i64 0,.sl [] 0 none,.sl [] 0 none,.sl [] 0 none],.bool false]) L→ad Tryz.prog 35 [.agg [.int .i64 n.tag,.str n.data,.sl (ai n.kids) n.kids.length none]] L K):=@hid _ (by intro L K q;rw [← aP];exact I7 hz (by rw [hy];exact q))
   clear hno hw h hy hz
   refine ac c7 (by simp [bg]) ?_
   simp only [bg,aj]
   refine wk ?_
   exact ao (aa rfl h'.out)
 obtain ⟨hd,ht,hu⟩:=Et hs hw hy
 have hub:Eo u:=⟨hd,ht,by have:=hu.1;omega,fun a ha=>by have:=(hu.2 a ha).2.1;omega⟩
 have kk2:Hid (∀ {L:List Blk} {K:AV→List Blk→Prop},K (.tup [.agg (gk u),.bool true]) L→ad Tryz.prog 35 [.agg [.int .i64 n.tag,.str n.data,.sl (ai n.kids) n.kids.length none]] L K):=@hid _ (by intro L K q;rw [← aP];exact I7 hz (by rw [hy];exact q))
 obtain ⟨⟨w,e⟩,hwe⟩:∃ q,wrU u=q:=⟨_,rfl⟩
 have kk3:Hid (∀ {L:List Blk} {K:AV→List Blk→Prop},K (.tup [.str w,.int .i64 e]) L→ad Tryz.prog 8 [.agg (gk u)] L K):=@hid _ (by intro L K q;exact G5 hd ht hu (by rw [hwe];exact q))
 have hrd:rdU s=if e≠0∨w≠s then (uN,4) else (dE u,0):=by
   rw [rdU,hw]
   simp only [hy,hwe]
 by_cases hb:e≠0∨w≠s
 · have h':=hid (hno 4 (by rw [hrd,if_pos hb]))
   clear hno hw h hy hz hrd hwe hub hd ht hu
   by_cases c1:e=0
   · have c2:¬ w=s:=by
       rcases hb with h1|h1
       · exact absurd c1 h1
       · exact h1
     clear hb
     subst c1
     refine ac c7 (by simp [bg]) ?_
     simp only [bg,aj]
     refine wk ?_
     exact ao (aa rfl h'.out)
   · clear hb
     refine ac c7 (by simp [bg]) ?_
     simp only [bg,aj]
     refine wk ?_
     exact ao (aa rfl h'.out)
 · rw [hrd,if_neg hb,rdA] at h
   simp only [not_or,ne_eq,Decidable.not_not] at hb
   obtain ⟨rfl,rfl⟩:=hb
   have kk4:Hid (∀ {L:List Blk} {K:AV→List Blk→Prop},K (.agg (gk (dE u))) L→ad Tryz.prog 11 [.agg (gk u)] L K):=@hid _ (by intro L K q;exact L6 hub q)
   replace h:=hid h
   clear hno hw hy hz hrd hwe hub hd ht hu
   refine ac c7 (by simp [bg]) ?_
   simp only [bg,aj]
   refine wk ?_
   exact aa (by simp only [AV.refs,AV.refsL,dm,m7];rfl) h.out
set_option maxHeartbeats 8000000
set_option maxRecDepth 100000
theorem LA {d:List Rdn} {cap:Option Nat} (hd:dnB d) (hp:(prS d).2=0) (h0:d≠[]) {L:List Blk} {K:AV→List Blk→Prop}
   (h:K (.tup [.ptr (L.length+3) 0,.int .i64 0]) (L++[.map [] 0,.map [] 0,.cells [dnA d,.lmap L.length,.lmap (L.length+1),.int .i64 0],.cells [.ptr (L.length+2) 0]])) :
   ad Tryz.prog 16 [.sl (d.map aH) d.length cap] L K:=by
 replace h:=hid h
 obtain ⟨⟨s,e⟩,hse⟩:∃ q,prS d=q:=⟨_,rfl⟩
 rw [hse] at hp
 simp only at hp
 subst hp
 have hl:¬ (d.length:Int)=0:=by have:=List.length_pos_iff.2 h0;omega
 have kk1:Hid (∀ {L:List Blk} {K:AV→List Blk→Prop},K (.tup [.str s,.int .i64 0]) L→ad Tryz.prog 20 [.sl (d.map aH) d.length cap] L K):=@hid _ (by intro L K q;exact Ey hd.1 hd.2 (by rw [hse];exact q))
 have kk2:Hid (∀ {c:Option Nat} {L:List Blk} {K:AV→List Blk→Prop},K (dnA d) L→ad Tryz.prog 31 [.sl (d.map aH) d.length cap,.sl [] 0 c] L K):=@hid _ (by intro c L K q;exact Gv hd.1 hd.2 q)
 clear hse h0
 refine ac DH (by simp [yh]) ?_
 simp only [yh,aj]
 refine wk ?_
 exact aq h.out
theorem IZ {d:List Rdn} {cap:Option Nat} (hd:dnB d) {v m2 ck:Nat} {a b c:AV} {L:List Blk} (hv:L[v]?=some (.cells [a,b,.lmap m2,c])) (hm:L[m2]?=some (.map [] ck)) {K:AV→List Blk→Prop} (h:K (.int .i64 0) L) :
   ad Tryz.prog 56 [.ptr v 0,.sl (d.map aH) d.length cap] L K:=by
 replace h:=hid h
 obtain ⟨⟨s,e⟩,hse⟩:∃ q,LO d=q:=⟨_,rfl⟩
 have kk1:Hid (∀ {L:List Blk} {K:AV→List Blk→Prop},K (.tup [.str s,.int .i64 e]) L→ad Tryz.prog 60 [.sl (d.map aH) d.length cap] L K):=@hid _ (by intro L K q;exact LP hd.1 hd.2 (by rw [hse];exact q))
 clear hse
 by_cases he:e=0
 · subst he
   refine ac gO (by simp [cZ]) ?_
   simp only [cZ,aj]
   refine wk ?_
   exact aq h.out
 · refine ac gO (by simp [cZ]) ?_
   simp only [cZ,aj]
   refine wk ?_
   exact aq h.out
theorem I1 {u:Upd} (hk:u.kind=2) (hd:dnB u.dn) {v m2 ck:Nat} {a b c:AV} {L:List Blk} (hv:L[v]?=some (.cells [a,b,.lmap m2,c])) (hm:L[m2]?=some (.map [] ck)) {K:AV→List Blk→Prop} (h:K (.int .i64 32) L) :
   ad Tryz.prog 55 [.ptr v 0,.agg (gk u)] L K:=by
 obtain ⟨k,d,t,l⟩:=u
 simp only at hk hd
 subst hk
 have hvl:v<L.length:=(List.getElem?_eq_some_iff.1 hv).1
 have hml:m2<L.length:=(List.getElem?_eq_some_iff.1 hm).1
 have kk1:Hid (∀ {X:List Blk} {K:AV→List Blk→Prop},K (.int .i64 0) (L++X)→ad Tryz.prog 56 [.ptr v 0,dnA d] (L++X) K):=@hid _ (by
   intro X K q
   exact IZ hd (by rw [List.getElem?_append_left hvl];exact hv) (by rw [List.getElem?_append_left hml];exact hm) q)
 replace h:=hid h
 clear hd hv hm
 refine ac vz (by simp [fM]) ?_
 simp only [fM,aj]
 refine wk ?_
 exact aa rfl h.out
theorem LB {u:Upd} (hk:u.kind=2) (hd:dnB u.dn) {t v m2 ck:Nat} {a b c:AV} {L:List Blk} (ht:L[t]?=some (.cells [.ptr v 0])) (hv:L[v]?=some (.cells [a,b,.lmap m2,c])) (hm:L[m2]?=some (.map [] ck)) {K:AV→List Blk→Prop} (h:K (.int .i64 32) L) :
   ad Tryz.prog 39 [.ptr t 0,.agg (gk u)] L K:=by
 have htl:t<L.length:=(List.getElem?_eq_some_iff.1 ht).1
 have hvl:v<L.length:=(List.getElem?_eq_some_iff.1 hv).1
 have hml:m2<L.length:=(List.getElem?_eq_some_iff.1 hm).1
 have kk1:Hid (∀ {X:List Blk} {K:AV→List Blk→Prop},K (.int .i64 32) (L++X)→ad Tryz.prog 55 [.ptr v 0,.agg (gk u)] (L++X) K):=@hid _ (by
   intro X K q
   exact I1 hk hd (by rw [List.getElem?_append_left hvl];exact hv) (by rw [List.getElem?_append_left hml];exact hm) q)
 have g1:∀ X:List Blk,(L++X)[t]?=some (.cells [.ptr v 0]):=fun X=>by rw [List.getElem?_append_left htl];exact ht
 replace h:=hid h
 clear hd hv hm hk ht
 refine ac Ay (by simp [iI]) ?_
 simp only [iI,aj]
 refine wk ?_
 exact aa rfl h.out
theorem HZ {s:List UInt8} {u:Upd} {cap:Option Nat} (hs:s.length≤1100000) (hu:rdU s=(u,0)) (hk:u.kind=2) (hd:dnB u.dn) {t v m2 ck:Nat} {a b c:AV} {L:List Blk} (ht:L[t]?=some (.cells [.ptr v 0])) (hv:L[v]?=some (.cells [a,b,.lmap m2,c])) (hm:L[m2]?=some (.map [] ck)) {K:AV→List Blk→Prop} (h:K (.tup [.int .i64 0,.int .i64 4]) L) :
   ad Tryz.prog 17 [.ptr t 0,.sl [.str s] 1 cap] L K:=by
 have htl:t<L.length:=(List.getElem?_eq_some_iff.1 ht).1
 have hvl:v<L.length:=(List.getElem?_eq_some_iff.1 hv).1
 have hml:m2<L.length:=(List.getElem?_eq_some_iff.1 hm).1
 have kk1:Hid (∀ {L:List Blk} {K:AV→List Blk→Prop},K (.tup [.agg (gk u),.int .i64 0]) L→ad Tryz.prog 13 [.str s] L K):=@hid _ (by intro L K q;exact Jg hs (by rw [hu];exact q))
 have kk2:Hid (∀ {X:List Blk} {K:AV→List Blk→Prop},K (.int .i64 32) (L++X)→ad Tryz.prog 39 [.ptr t 0,.agg (gk u)] (L++X) K):=@hid _ (by
   intro X K q
   exact LB hk hd (by rw [List.getElem?_append_left htl];exact ht) (by rw [List.getElem?_append_left hvl];exact hv) (by rw [List.getElem?_append_left hml];exact hm) q)
 replace h:=hid h
 clear hd hv hm hk ht hu
 refine ac ym (by simp [gp]) ?_
 simp only [gp,aj]
 refine wk ?_
 refine ak (fun m T' L'=>m=1∧T'=[(14,.int .i64 0),(13,.int .i64 1),(12,.sl [.str s] 1 cap),(0,.ptr t 0)]∧L=L') (CutS (b:=Nat.le_refl _)) ⟨rfl,rfl,rfl⟩ ?_
 rintro _ _ _ ⟨rfl,rfl,rfl⟩
 refine wk ?_
 exact aa rfl h.out
def exD:List Rdn:=[[([100,99],[122])]]
def exU:Upd:=⟨2,exD,[],[]⟩
def exS:List UInt8:=[48,9,2,1,2,4,4,100,99,61,122]
theorem GT:wrU exU=(exS,0):=by kernel_rfl
theorem LY:rdU exS=(exU,0):=by
 have h1:(wrU exU).2=0:=by rw [GT]
 have:=Mx (u:=exU) ⟨by simp [exU],by simp [exU]⟩ h1
 rw [GT] at this
 exact this
theorem LZ:(prS exD).2=0:=by kernel_rfl
theorem JQ:dnB exD:=⟨by simp [exD],fun r hr=>by simp [exD] at hr;subst hr;simp⟩
theorem IA {L:List Blk} {K:AV→List Blk→Prop} (h:K (.bool true) L):ad Tryz.prog 7 [] L K:=by
 replace h:=hid h
 have kk1:Hid (∀ {L:List Blk} {K:AV→List Blk→Prop},K (.tup [.str exS,.int .i64 0]) L→ad Tryz.prog 8 [.agg [.int .i64 2,.sl [.sl [.str [100,99],.str [122]] 1 (some 1)] 1 (some 1),.sl [] 0 (some 0),.sl [] 0 (some 0)]] L K):=@hid _ (by
   intro L K q
   refine dL ?_
   have:=G5 (u:=exU) (L:=L) (K:=K) JQ ⟨by simp [exU],by simp [exU]⟩ ⟨by simp [exU],by simp [exU]⟩ (by rw [GT];exact q)
   exact this)
 have kk2:Hid (∀ {L:List Blk} {K:AV→List Blk→Prop},K (.tup [.ptr (L.length+3) 0,.int .i64 0]) (L++[.map [] 0,.map [] 0,.cells [dnA exD,.lmap L.length,.lmap (L.length+1),.int .i64 0],.cells [.ptr (L.length+2) 0]])→ad Tryz.prog 16 [.sl [.sl [.str [100,99],.str [122]] 1 (some 1)] 1 (some 1)] L K):=@hid _ (by
   intro L K q
   refine dL ?_
   have:=LA (d:=exD) (cap:=none) (L:=L) (K:=K) JQ LZ (by simp [exD]) q
   exact this)
 have kk3:Hid (∀ {L:List Blk} {c:Option Nat} {K:AV→List Blk→Prop},K (.tup [.int .i64 0,.int .i64 4]) (L++[.map [] 0,.map [] 0,.cells [dnA exD,.lmap L.length,.lmap (L.length+1),.int .i64 0],.cells [.ptr (L.length+2) 0]])→ad Tryz.prog 17 [.ptr (L.length+3) 0,.sl [.str exS] 1 c] (L++[.map [] 0,.map [] 0,.cells [dnA exD,.lmap L.length,.lmap (L.length+1),.int .i64 0],.cells [.ptr (L.length+2) 0]]) K):=@hid _ (by
   intro L c K q
   exact HZ (u:=exU) (v:=L.length+2) (m2:=L.length+1) (ck:=0) (a:=dnA exD) (b:=.lmap L.length) (c:=.int .i64 0) (by simp [exS]) LY rfl JQ (by simp) (by simp) (by simp) q)
 have hS:exS=[48,9,2,1,2,4,4,100,99,61,122]:=rfl
 rw [hS] at kk1 kk3
 clear hS
 refine ac A1 (by simp [j9]) ?_
 simp only [j9,aj]
 refine wk ?_
 exact aa rfl h.out
set_option maxHeartbeats 8000000
set_option maxRecDepth 100000
structure MX (u:Upd):Prop where
 dn:MD u.dn∧∀ r∈u.dn,∀ a∈r,(a.1.length:Int)≤140737488351232
 to:MD u.to∧∀ r∈u.to,∀ a∈r,(a.1.length:Int)≤140737488351232
 attrs:(u.attrs.length:Int)≤9223372036854775807
 names:∀ a∈u.attrs,(a.1.length:Int)≤140737488351232∧(a.2.length:Int)≤9223372036854775807
end Go.Proofs.YtgpnbkdcdmfgcaaGreat.Av
