/- Joined texts of the walk, made small by a program. -/
import Derived.Test.YtobihfefmlgaoaaGreatRk13
import Derived.Test.YtobihfefmlgaoaaGreatRk14
import Derived.Test.YtobihfefmlgaoaaGreatRk5
import Derived.Test.YtobihfefmlgaoaaGreatRk10
set_option linter.unusedSimpArgs false
set_option linter.unusedVariables false
namespace Go.Proofs.YtobihfefmlgaoaaGreat.Av
open Go
variable {L:List Blk} {K:afC}
set_option maxHeartbeats 8000000
set_option maxRecDepth 100000
def szB (B:Nat):Nat->Nd->Prop
 | 0,n=>n.data.length<=B/\n.kids.length<=B
 | k+1,n=>n.data.length<=B/\n.kids.length<=B/\∀ x∈n.kids,szB B k x
theorem Ti {B:Nat}:∀ {k:Nat} {n:Nd},szB B k n->n.data.length<=B/\n.kids.length<=B
 | 0,_,h=>h
 | _+1,_,h=>⟨h.1,h.2.1⟩
def acr:Option Upd->AV
 | none=>.tup [.agg [.int .i64 0,.sl [] 0 none,.sl [] 0 none,.sl [] 0 none],.bool false]
 | some u=>.tup [.agg (dO u),.bool true]
theorem ki {l:List Nd} {k:Nat} (h:k<l.length):(aC l).getD (k * 3+1) .undef=.str (l.getD k bd).data:=by
 have h3:=congrArg (fun l=>l[1]?) (gh h);simp only [aib (show 1<3 by omega),aia] at h3;rw [ahE,h3,bJ];rfl
theorem Vy {l:List Nd} {k:Nat} (h:k<l.length):(aC l).getD (k * 3+2) .undef=.sl (aC (l.getD k bd).kids) (l.getD k bd).kids.length none:=by
 have h3:=congrArg (fun l=>l[2]?) (gh h);simp only [aib (show 2<3 by omega),aia] at h3;rw [ahE,h3,bJ];rfl
theorem QV:∀ (l:List Nd) (k:Nat),(aC l).drop (k * 3)=aC (l.drop k)
 | [],k=>by
   have e:aC []=[]:=by rw [aC]
   rw [List.drop_nil,e,List.drop_nil]
 | n::l,0=>by simp
 | n::l,k+1=>by
   rw [ajK,<- QV l k,aC,List.drop_append,bJ];rw [aiX (by simp;omega),ah3]
   congr 1
   simp;omega
def afG (l:List Nd):Option Upd :=
 if l.length<2\/4<l.length then none else
 match YM (l.getD 0 bd).data with
 | none=>none
 | some k =>
   let p:=fP (l.getD 1 bd).data
   let r:=l.drop 2
   let q:=if k=4/\r≠[] then fP (r.getD 0 bd).data else ([],0)
   let r':=if k=4 then r.drop 1 else r
   if p.2≠0\/q.2≠0\/1<r'.length then none else
   match r' with
   | []=>some ⟨k,p.1,q.1,[]⟩
   | x::_=>(yL x.kids).map fun a=>⟨k,p.1,q.1,a⟩
theorem ZK (t:Int) (d:List UInt8) (l:List Nd):V6 (.mk t d l)=afG l:=rfl
theorem acq {n:Nd} (hz:szB 1100000 4 n) (h:K (acr (V6 n)) L):afB 71 [.agg (ndA n)] L K:=by
 obtain ⟨tg,dt,l⟩:=n;rw [bG];rw [ZK,afG] at h;obtain ⟨_,hzl,hzk⟩:=hz;simp only [Nd.kids] at hzl hzk;by_cases hl:l.length<2\/4<l.length
 ·rw [if_pos hl] at h;simp only [acr] at h;replace h:=hid h;clear hzk;rcases hl with h2|h4
  ·have g1:(l.length:Int)<2:=by omega
   clear h2;refine acg ig ?_;exact ay (ab rfl h.out)
  ·have g1:¬ (l.length:Int)<2:=by omega
   have g2:(4:Int)<(l.length:Int):=by omega
   clear h4;refine acg ig ?_;exact ay (ab rfl h.out)
 rw [if_neg hl] at h;have g1:¬ (l.length:Int)<2:=by omega
 have g2:¬ (4:Int)<(l.length:Int):=by omega
 have g3:(0:Int)<(l.length:Int):=by omega
 have g4:(1:Int)<(l.length:Int):=by omega
 have g5:(2:Int)<=(l.length:Int):=by omega
 have f0:(aC l).getD 1 .undef=.str (l.getD 0 bd).data:=ki (k:=0) (by omega);have f1:(aC l).getD 4 .undef=.str (l.getD 1 bd).data:=ki (k:=1) (by omega);have f2:=dH l;have f3:(aC l).drop 6=aC (l.drop 2):=QV l 2;have b0:1<(aC l).length:=by omega
 have b1:4<(aC l).length:=by omega
 obtain ⟨n0,hn0⟩:=aaR (l.getD 0 bd);obtain ⟨n1,hn1⟩:=aaR (l.getD 1 bd);have z0:=Ti (hzk n0 (by rw [<- hn0];simp [show 0<l.length by omega]));rw [hn0] at f0 h;rw [hn1] at f1 h;rcases hnum:YM n0.data with _|k
 ·rw [hnum] at h;simp only [acr] at h;replace h:=hid h;have kk1:Hid (Ctr Tryz.prog 105 [.str n0.data] (.tup [.int .i64 0,.bool false])):=@hid _ (by intro L K q;exact Vw z0.1 (by rw [hnum];exact q));clear hzk hnum hn0 hn1 z0 hl;refine acg ig ?_;exact ay (ab rfl h.out)
 rw [hnum] at h;simp only at h;have kk1:Hid (Ctr Tryz.prog 105 [.str n0.data] (.tup [.int .i64 k,.bool true])):=@hid _ (by intro L K q;exact Vw z0.1 (by rw [hnum];exact q));obtain ⟨⟨d1,e1⟩,hp1⟩:∃ q,fP n1.data=q:=⟨_,rfl⟩;have kk2:Hid (Ctr Tryz.prog 106 [.str n1.data] (.tup [dnA d1,.int .i64 e1])):=@hid _ (by intro L K q;exact ZT (by rw [hp1];exact q));rw [hp1] at h;simp only at h;obtain ⟨r,hr⟩:=aaR (l.drop 2);have hrl:r.length+2=l.length:=by rw [<- hr];simp;omega
 have hzr:∀ x∈r,szB 1100000 3 x:=fun x hx=>hzk x (by rw [<- hr] at hx;exact ajW hx)
 rw [hr] at f3 h;have f4:((l.length:Int)).toNat - 2=r.length:=by omega
 have f5:(aC r).take (r.length * 3)=aC r:=by rw [<- dH r,ahA]
 have f6:l.length - 2=r.length:=by omega
 clear hzk hnum hn0 hn1 z0 hl hp1 hr;replace hzr:=hid hzr;refine aa ig (by simp [di]) ?_;simp only [di,ag]
 iterate 42 first
  | refine cP ?_
  | (first|refine bY (by kernel_rfl) ?_|refine bj (by kernel_rfl) ?_|refine bm ?_|refine fy ?_|refine cT (fun _=>?_)|refine a8 ?_|refine b9 ?_|refine kk1.out ?_|refine kk2.out ?_|refine cA (kk1.out ⟨rfl,rfl⟩) (kk1.out ⟨rfl,rfl⟩) ?_|refine cA (kk2.out ⟨rfl,rfl⟩) (kk2.out ⟨rfl,rfl⟩) ?_|refine bf (kk1.out ⟨rfl,rfl⟩) ?_|refine bf (kk2.out ⟨rfl,rfl⟩) ?_)
    simp (config:={ maxSteps:=2000000 }) only [Kon,push_cast,reduceIte,Nat.reduceEqDiff,Nat.reduceAdd,Nat.reduceMul,Nat.reduceSub,Nat.reduceLT,Nat.reduceLeDiff,Int.reduceLT,Int.reduceLE,Int.reduceAdd,Int.reduceSub,Int.reduceNeg,Int.reduceToNat,Int.reduceEq,reduceCtorEq, *]
  | (first|refine bU (by kernel_rfl) ?_|refine bT ?_|refine bZ ?_|refine cY (a7 ?_))
    simp only [push_cast,reduceIte,Nat.reduceEqDiff,Nat.reduceAdd,Nat.reduceMul,Nat.reduceSub,Nat.reduceLT,Nat.reduceLeDiff,Int.reduceLT,Int.reduceLE,Int.reduceAdd,Int.reduceSub,Int.reduceNeg,Int.reduceToNat,Int.reduceEq,reduceCtorEq, *]
  | exact cU
  | first|apply cV|apply bV|apply cW|apply bW|apply cX|apply bX
  | refine br ?_
  | first|refine bp rfl ?_|refine bq rfl ?_|refine aW rfl ?_ ?_|refine bz rfl (fun _=>?_) (fun _=>?_)|refine bw rfl (fun _=>?_) (fun _=>?_)
  | ((first|refine aV (fun _=>?_) (fun _=>?_)|refine a6 (fun _=>?_) (fun _=>?_))<;>try simp (config:={ maxSteps:=2000000 }) only [Kon,push_cast,reduceIte,Nat.reduceEqDiff,Nat.reduceAdd,Nat.reduceMul,Nat.reduceSub,Nat.reduceLT,Nat.reduceLeDiff,Int.reduceLT,Int.reduceLE,Int.reduceAdd,Int.reduceSub,Int.reduceNeg,Int.reduceToNat,Int.reduceEq,reduceCtorEq, *])
  | refine And.intro trivial ?_
  | refine And.intro (by omega) ?_
  | refine bA rfl (fun _=>?_) (fun _=>?_)
  | refine And.intro ?_ ?_
 obtain ⟨q,hq⟩:=aaR ((if k=4/\r≠[] then fP (r.getD 0 bd).data else ([],0)));obtain ⟨d2,e2⟩:=q;obtain ⟨r',hr'⟩:=aaR ((if k=4 then r.drop 1 else r));rw [hq,hr'] at h;simp only at h;have hzr':∀ x∈r',szB 1100000 3 x:=fun x hx=>by
  rw [<- hr'] at hx;split at hx
  ·exact hzr.out x (ajW hx)
  ·exact hzr.out x hx
 replace h:=hid h;refine uq (fun T2 L2=>∃ ct:Option Nat,T2=[(10,.sl (aC r') r'.length none),(9,.int .i64 e2),(8,.int .i64 e1),(7,.ptr (L.length+2) 0),(3,.bool false),(2,.ptr (L.length+1) 0)]/\L2=L++[.cells [.int .i64 tg,.str dt,.sl (aC l) l.length none],.cells [.int .i64 0,.sl [] 0 (some 0),.sl [] 0 (some 0),.sl [] 0 (some 0)],.cells [.int .i64 k,dnA d1,.sl (d2.map aw) d2.length ct,.sl [] 0 (some 0)]]) ?_ ?_
 ·clear f0 f1 f2 f3 f4 b0 b1 kk1 kk2;by_cases h4:k=4
  ·rw [if_pos h4] at hr';by_cases hr0:r=[]
   ·rw [if_neg (fun e=>e.2 hr0)] at hq;cases hq;subst hr0;subst hr';subst h4;have e0:aC []=[]:=by rw [aC]
    refine wk ?_;exact gV [(10,.sl (aC []) ([]:List Nd).length none),(9,.int .i64 0),(8,.int .i64 e1),(7,.ptr (L.length+2) 0),(3,.bool false),(2,.ptr (L.length+1) 0)] _ (rU (eM rfl (by rw [e0];rfl) (by repeat' first|exact rT|refine eM rfl rfl ?_)) (by simp)) ⟨some 0,rfl,rfl⟩
   ·rw [if_pos ⟨h4,hr0⟩] at hq;have hrp:0<r.length:=ah8.2 hr0;have p1:(0:Int)<(r.length:Int):=by omega
    have p2:(1:Int)<=(r.length:Int):=by omega
    have f0:(aC r).getD 1 .undef=.str (r.getD 0 bd).data:=ki (k:=0) hrp;have f2:=dH r;have f3:(aC r).drop 3=aC (r.drop 1):=QV r 1;have b1:1<(aC r).length:=by omega
    have f7:r'.length=r.length - 1:=by rw [<- hr'];simp
    have f8:(aC r').take ((r.length - 1) * 3)=aC r':=by rw [<- f7,<- dH r',ahA]
    obtain ⟨n2,hn2⟩:=aaR (r.getD 0 bd);rw [hn2] at f0 hq;rw [hr'] at f3;have kk1:Hid (Ctr Tryz.prog 106 [.str n2.data] (.tup [dnA d2,.int .i64 e2])):=@hid _ (by intro L K q;exact ZT (by rw [hq];exact q));have f9:=aO d2;clear hq hr' hn2 hr0;subst h4;refine wk ?_;exact gV _ _ (CutL (b:=by simp)) ⟨none,rfl,rfl⟩
  ·rw [if_neg h4] at hr';rw [if_neg (fun e=>h4 e.1)] at hq;cases hq;subst hr';refine wk ?_;exact gV _ _ (CutL (b:=by simp)) ⟨some 0,rfl,rfl⟩
 rintro _ _ ⟨ct,rfl,rfl⟩ -;clear hq hr' hzr f0 f1 f2 f3 f4 f5 f6 b0 b1 kk1 kk2 hrl g1 g2 g3 g4 g5;by_cases hbad:e1≠0\/e2≠0\/1<r'.length
 ·have h':=h.out;rw [if_pos hbad] at h';simp only [acr] at h';replace h':=hid h';have hb:e1≠0\/e2≠0\/(1:Int)<(r'.length:Int):=by omega
  clear h hbad hzr';by_cases c1:e1=0
  ·by_cases c2:e2=0
   ·have c3:(1:Int)<(r'.length:Int):=by omega
    clear hb;subst c1;subst c2;refine wk ?_;exact ay (ab rfl h'.out)
   ·clear hb;subst c1;refine wk ?_;exact ay (ab rfl h'.out)
  ·clear hb;refine wk ?_;exact ay (ab rfl h'.out)
 have h':=h.out;rw [if_neg hbad] at h';have hgood:e1=0/\e2=0/\r'.length<=1:=by omega
 obtain ⟨rfl,rfl,hr1⟩:=hgood;clear h hbad;rcases r' with _|⟨x,r2⟩
 ·simp only [acr] at h';replace h':=hid h';have e0:aC []=[]:=by rw [aC]
  clear hzr';refine wk ?_;refine ah (fun m T' L'=>m=0/\T'=[(86,.int .i64 0),(85,.int .i64 0),(84,.sl [] 0 none),(7,.ptr (L.length+2) 0),(2,.ptr (L.length+1) 0)]/\L'=L++[.cells [.int .i64 tg,.str dt,.sl (aC l) l.length none],.cells [.int .i64 0,.sl [] 0 (some 0),.sl [] 0 (some 0),.sl [] 0 (some 0)],.cells [.int .i64 k,dnA d1,.sl (d2.map aw) d2.length ct,.sl [] 0 (some 0)]]) (CutS (b:=by simp)) ⟨rfl,rfl,rfl⟩ ?_;rintro _ _ _ ⟨rfl,rfl,rfl⟩;refine wk ?_;refine ay ?_;simp only [AV.frz,AV.frzL,aO];refine ab ?_ h'.out;simp only [AV.refs,AV.refsL,cQ];rfl
 have hr2:r2=[]:=by
  simp at hr1;exact hr1
 subst hr2;obtain ⟨_,hxl,hxk⟩:=hzr' x (by simp);clear hzr' hr1;simp only at h';obtain ⟨ks,hks⟩:=aaR (x.kids);rw [hks] at h' hxl hxk;obtain ⟨A,hA⟩:=aaR (yL ks);rw [hA] at h';have hno:A=none->K (.tup [.agg [.int .i64 0,.sl [] 0 none,.sl [] 0 none,.sl [] 0 none],.bool false]) L:=fun e=>by rw [e] at h';exact h'
 have hyes:∀ a,A=some a->K (.tup [.agg [.int .i64 k,dnA d1,dnA d2,.sl (aU a) a.length none],.bool true]) L:=fun a e=>by rw [e] at h';exact h'
 have hrow:aC [x]=[.int .i64 x.tag,.str x.data,.sl (aC ks) ks.length none]:=by
  rw [aC,bJ,hks,aC,ahO]
 rw [hrow];replace hno:=hid hno;replace hyes:=hid hyes;replace hxk:=hid hxk;obtain ⟨N0,hN0⟩:=aaR (Blk.cells [.int .i64 tg,.str dt,.sl (aC l) l.length none]);rw [hN0];clear h' hks hrow hN0;refine wk ?_;refine lF (L.length+2) 3 2 (c:=[.int .i64 k,dnA d1,.sl (d2.map aw) d2.length ct,.sl [] 0 (some 0)]) (l:=[]) (n:=0) (by simp) rfl (ahQ 2).symm ?_;refine ah (fun m T' L'=>∃ (i:Nat) (acc:List Atr) (D:List AV) (X:List Blk),m=1 - i/\i<=1/\Hid (if i=0 then acc=[] else A=some acc)/\Hid (D=aU acc)/\T'=[(86,.int .i64 (i:Int)),(85,.int .i64 1),(84,.sl [.int .i64 x.tag,.str x.data,.sl (aC ks) ks.length none] 1 none),(7,.ptr (L.length+2) 0),(3,.bool false),(2,.ptr (L.length+1) 0)]/\L'=L++(N0 :: .cells [.int .i64 0,.sl [] 0 (some 0),.sl [] 0 (some 0),.sl [] 0 (some 0)] :: .cells [.int .i64 k,dnA d1,.sl (d2.map aw) d2.length ct,.gsl D acc.length (L.length+3) 2] :: .spare acc.length 2::X)) (CutS (b:=by simp)) ⟨0,[],[],[],rfl,by omega,hid (by simp),hid rfl,rfl,by simp⟩ ?_;rintro _ _ _ ⟨i,acc,D,X,rfl,hi,hI,hD,rfl,rfl⟩;by_cases hi0:i=0;rotate_left
 ·have hi1:i=1:=by omega
  subst hi1;have hIA:=hI.out;rw [if_neg (by omega)] at hIA;have h':=hid (hyes.out acc hIA);have hD2:=hD.out;have e0:=dp acc;subst hD2;clear hI hD hIA hyes hno;refine wk ?_;refine ay ?_;simp only [AV.frz,AV.frzL,aO,e0];refine ab ?_ h'.out;simp only [AV.refs,AV.refsL,cQ,ko];rfl
 subst hi0;have hacc:=hI.out;rw [if_pos rfl] at hacc;subst hacc;have hD2:=hD.out;have e00:aU []=[]:=rfl;rw [e00] at hD2;subst hD2;clear hI hD;refine wk ?_;refine ah (fun m T' L'=>∃ (acc:List Atr) (j:Nat) (D:List AV) (Y:List Blk),m=ks.length - j/\j<=ks.length/\X.length+1<=Y.length/\Hid ((yL (ks.drop j)).map (fun r=>acc++r)=A)/\Hid (D=aU acc/\j=acc.length)/\T'=[(93,.int .i64 (j:Int)),(92,.int .i64 ks.length),(91,.sl (aC ks) ks.length none),(86,.int .i64 0),(85,.int .i64 1),(84,.sl [.int .i64 x.tag,.str x.data,.sl (aC ks) ks.length none] 1 none),(7,.ptr (L.length+2) 0),(3,.bool false),(2,.ptr (L.length+1) 0)]/\L'=L++(N0 :: .cells [.int .i64 0,.sl [] 0 (some 0),.sl [] 0 (some 0),.sl [] 0 (some 0)] :: .cells [.int .i64 k,dnA d1,.sl (d2.map aw) d2.length ct,.gsl D j (L.length+3) 2] :: .spare j 2::Y)) (CutS (b:=by simp)) ⟨[],0,[],_,rfl,ahp _,by simp,hid (by rw [ajJ,hA];cases A<;>rfl),hid ⟨rfl,rfl⟩,rfl,rfl⟩ ?_;rintro _ _ _ ⟨acc,j,D,Y,rfl,hj,hXY,hJ,hDj,rfl,rfl⟩;by_cases hjl:j<ks.length
 ·have j1:(j:Int)<(ks.length:Int):=by omega
  have j2:=ace j (by omega);have e3:=gh hjl;have e4:j * 3+3<=(aC ks).length:=by rw [dH];omega
  obtain ⟨a,ha⟩:=aaR (ks.getD j bd);have hdr:ks.drop j=a::ks.drop (j+1):=by rw [ah2 hjl,<- ha];simp [hjl]
  obtain ⟨_,hal,hak⟩:=hxk.out a (by rw [<- ha];simp [hjl]);rw [ha,bJ] at e3;have hJ2:=hJ.out;rw [hdr,yL] at hJ2;clear hJ hdr ha hA;by_cases h2:a.kids.length=2;rotate_left
  ·rw [if_pos h2] at hJ2;have h':=hid (hno.out hJ2.symm);have g2:¬ (a.kids.length:Int)=2:=by omega
   clear hJ2 h2 hno hyes;refine wk ?_;exact ay (ab rfl h'.out)
  rw [if_neg (by omega)] at hJ2;have g2:(a.kids.length:Int)=2:=by omega
  have f0:(aC a.kids).getD 1 .undef=.str (a.kids.getD 0 bd).data:=ki (k:=0) (by omega);have f1:(aC a.kids).getD 5 .undef=.sl (aC (a.kids.getD 1 bd).kids) (a.kids.getD 1 bd).kids.length none:=Vy (k:=1) (by omega);have b0:1<(aC a.kids).length:=by rw [dH];omega
  have b1:5<(aC a.kids).length:=by rw [dH];omega
  obtain ⟨nm,hnm⟩:=aaR ((a.kids.getD 0 bd).data);obtain ⟨vk,hvk⟩:=aaR ((a.kids.getD 1 bd).kids);have hvl:vk.length<=1100000:=by
   rw [<- hvk];exact (Ti (hak _ (by simp [show 1<a.kids.length by omega]))).2
  rw [hnm] at f0 hJ2;rw [hvk] at f1 hJ2;have hJ3:(yL (ks.drop (j+1))).map (fun r=>(acc++[(nm,iQ vk)])++r)=A:=by
   rw [<- hJ2];cases yL (ks.drop (j+1))<;>simp
  replace hJ3:=hid hJ3;clear hJ2 hnm hvk hak hno hyes h2;refine wk ?_;refine lF (L.length+(Y.length+1+1+1+1+1)) 1 1 (c:=[.str nm,.sl [] 0 (some 0)]) (l:=[]) (n:=0) (by simp) rfl (ahQ 1).symm ?_;refine ah (fun m T' L'=>∃ (p:Nat) (E:List AV) (Z:List Blk),m=vk.length - p/\p<=vk.length/\Hid (E=(iQ (vk.take p)).map AV.str)/\T'=[(114,.int .i64 (p:Int)),(113,.int .i64 vk.length),(112,.sl (aC vk) vk.length none),(15,.ptr (L.length+(Y.length+1+1+1+1+1)) 0),(93,.int .i64 (j:Int)),(92,.int .i64 ks.length),(91,.sl (aC ks) ks.length none),(86,.int .i64 0),(85,.int .i64 1),(84,.sl [.int .i64 x.tag,.str x.data,.sl (aC ks) ks.length none] 1 none),(7,.ptr (L.length+2) 0),(3,.bool false),(2,.ptr (L.length+1) 0)]/\L'=L++(N0 :: .cells [.int .i64 0,.sl [] 0 (some 0),.sl [] 0 (some 0),.sl [] 0 (some 0)] :: .cells [.int .i64 k,dnA d1,.sl (d2.map aw) d2.length ct,.gsl D j (L.length+3) 2] :: .spare j 2::(Y++(.cells [.int .i64 a.tag,.str a.data,.sl (aC a.kids) a.kids.length none] :: .cells [.str nm,.gsl E p (L.length+(Y.length+1+1+1+1+1+1)) 1] :: .spare p 1::Z)))) (CutS (b:=by simp)) ⟨0,[],[],rfl,ahp _,hid rfl,rfl,by simp⟩ ?_;rintro _ _ _ ⟨p,E,Z,rfl,hp,hE,rfl,rfl⟩;by_cases hpl:p<vk.length
  ·have p1:(p:Int)<(vk.length:Int):=by omega
   have p2:=ace p (by omega);have e5:=gh hpl;have e6:p * 3+3<=(aC vk).length:=by rw [dH];omega
   obtain ⟨v,hv⟩:=aaR (vk.getD p bd);rw [hv,bJ] at e5;have htk:(iQ (vk.take (p+1))).map AV.str=E++[.str v.data]:=by
    rw [hE.out,ahK hpl,show vk[p]=v by rw [<- hv];simp [hpl]];simp [iQ]
   replace htk:=hid htk;clear hv hE;refine wk ?_;exact aq _ _ _ (by omega) (CutL (b:=by simp)) ⟨p+1,_,Z++[.cells [.int .i64 v.tag,.str v.data,.sl (aC v.kids) v.kids.length none]],rfl,hpl,hid htk.out.symm,rfl,by simp⟩
  ·have hpe:p=vk.length:=by omega
   subst hpe;have p1:¬ (vk.length:Int)<(vk.length:Int):=by omega
   have hE2:=hE.out;rw [ahA] at hE2;have e5:AV.frzL E=E:=by rw [hE2];exact lq _
   have hDn:D++[.str nm,.sl E vk.length none]=aU (acc++[(nm,iQ vk)]):=by
    rw [hDj.out.1,KU,hE2];simp only [aU,ahY,ajB,ahO,atA,iQ,ahF]
   replace hDn:=hid hDn;clear hE hE2;refine wk ?_;refine aq _ _ _ (by omega) (CutL (b:=by simp;omega)) ⟨acc++[(nm,iQ vk)],j+1,_,_,rfl,hjl,?_,hJ3,hid ⟨hDn.out,by rw [hDj.out.2];simp⟩,rfl,rfl⟩;simp;omega
 ·have hje:j=ks.length:=by omega
  subst hje;have j1:¬ (ks.length:Int)<(ks.length:Int):=by omega
  have hJ2:=hJ.out;rw [aij,yL] at hJ2;simp only [ahM,ahO] at hJ2;replace hJ2:=hid hJ2;clear hJ;refine wk ?_;exact aq _ _ _ (by omega) (CutL (b:=by simp)) ⟨1,acc,D,Y,rfl,by omega,hid (by rw [if_neg (by omega)];exact hJ2.out.symm),hid hDj.out.1,rfl,by rw [<- hDj.out.2]⟩
theorem OL {B C:Nat} (h:B<=C):∀ {k:Nat} {n:Nd},szB B k n->szB C k n
 | 0,_,hz=>⟨by have:=hz.1;omega,by have:=hz.2;omega⟩
 | _+1,_,hz=>⟨by have:=hz.1;omega,by have:=hz.2.1;omega,fun x hx=>OL h (hz.2.2 x hx)⟩
theorem Z4 {p:List UInt8->Except Int (Nd×List UInt8)} (hp:∀ s n r,p s=.ok (n,r)->r.length<s.length):∀ (F:Nat) (u:List UInt8) (l:List Nd),lh p F u=.ok l->l.length<=u.length/\∀ x∈l,∃ v r,v.length<=u.length/\p v=.ok (x,r)
 | 0,[],l,h=>by cases h;simp
 | 0,_::_,l,h=>by cases h;simp
 | F+1,[],l,h=>by cases h;simp
 | F+1,c::u,l,h=>by
   rw [Wn (by simp)] at h;split at h
   ·cases h
   rename_i n r hpu
   split at h
   ·cases h
   rename_i l' hm
   cases h;have hlt:=hp _ _ _ hpu;obtain ⟨h1,h2⟩:=Z4 hp F r l' hm;refine ⟨by simp at hlt ⊢;omega,fun x hx=>?_⟩;rcases ahR.1 hx with rfl|hx
   ·exact ⟨_,_,ahn _,hpu⟩
   ·obtain ⟨v,r',a,b⟩:=h2 x hx;exact ⟨v,r',by omega,b⟩
theorem acM:∀ (f:Nat) {s:List UInt8} {n:Nd} {r:List UInt8},gH f s=.ok (n,r)->∀ k,szB s.length k n
 | 0,s,n,r,h,k=>by cases h
 | f+1,s,n,r,h,k=>by
   rw [gH] at h;split at h
   ·cases h
   simp only at h;split at h
   ·cases h
   split at h
   ·cases h
   rename_i size a hb
   split at h
   ·cases h
   rename_i hsz
   split at h
   ·cases h;cases k with
    | zero=>exact ⟨by simp only [Nd.data,ail,aik];omega,by simp [Nd.kids]⟩
    | succ k=>exact ⟨by simp only [Nd.data,ail,aik];omega,by simp [Nd.kids],fun x hx=>by simp [Nd.kids] at hx⟩
   split at h
   ·cases h
   ·rename_i ks hm
    cases h;obtain ⟨h1,h2⟩:=Z4 (fun s n r=>acN) _ _ _ hm;have h3:((s.drop a).take size).length<=s.length:=by simp only [ail,aik];omega
    cases k with
    | zero=>exact ⟨by simp [Nd.data],by simp only [Nd.kids];omega⟩
    | succ k =>
      refine ⟨by simp [Nd.data],by simp only [Nd.kids];omega,fun x hx=>?_⟩;obtain ⟨v,r',a1,a2⟩:=h2 x hx;exact OL (by omega) (acM f a2 k)
theorem Ym {s:List UInt8} {n:Nd} (h:uN s=.ok n) (k:Nat):szB s.length k n:=by
 unfold uN at h;split at h
 ·cases h
 rename_i n' r hp
 split at h
 ·cases h;exact acM _ hp k
 ·cases h
theorem aai {B:Nat}:∀ {l:List Nd} {a:List Atr},yL l=some a->(∀ x∈l,szB B 2 x)->a.length<=l.length/\∀ y∈a,y.1.length<=B/\y.2.length<=B/\∀ v∈y.2,v.length<=B
 | [],a,h,_=>by cases h;simp
 | x::l,a,h,hz=>by
   rw [yL] at h;split at h
   ·cases h
   rename_i h2
   rw [ahG] at h;obtain ⟨r,h1,rfl⟩:=h;obtain ⟨i1,i2⟩:=aai h1 fun y hy=>hz y (by simp [hy])
   refine ⟨by simp;omega,fun y hy=>?_⟩;rcases ahR.1 hy with rfl|hy
   ·obtain ⟨_,_,hk⟩:=hz x (by simp);have k0:=Ti (hk (x.kids.getD 0 bd) (by simp [show 0<x.kids.length by omega]));obtain ⟨_,k1,k2⟩:=hk (x.kids.getD 1 bd) (by simp [show 1<x.kids.length by omega]);refine ⟨k0.1,by simpa [iQ] using k1,fun v hv=>?_⟩;simp only [iQ,ahs] at hv;obtain ⟨w,hw,rfl⟩:=hv;exact (Ti (k2 w hw)).1
   ·exact i2 y hy
theorem To {s:List UInt8} {n:Nd} {u:Upd} (hs:s.length<=1100000) (hw:uN s=.ok n) (hu:V6 n=some u):dnB u.dn/\dnB u.to/\ov u:=by
 obtain ⟨t,d,l⟩:=n;obtain ⟨_,_,hk⟩:=Ym hw 4;simp only [Nd.kids] at hk;rw [ZK,afG] at hu;split at hu
 ·cases hu
 split at hu
 ·cases hu
 rename_i k hnum
 simp only at hu;have pb:∀ s,dnB (fP s).1:=fun s=>⟨by have:=(ZV s).1;omega,fun r hr=>by have:=(ZV s).2 r hr;omega⟩
 have qb:dnB (if k=4/\l.drop 2≠[] then fP ((l.drop 2).getD 0 bd).data else ([],0)).1:=by
  split
  ·exact pb _
  ·exact ⟨by simp,by simp⟩
 have rb:∀ x∈(if k=4 then (l.drop 2).drop 1 else l.drop 2),x∈l:=fun x hx=>by
  split at hx
  ·exact ajW (ajW hx)
  ·exact ajW hx
 obtain ⟨q,hq⟩:=aaR ((if k=4/\l.drop 2≠[] then fP ((l.drop 2).getD 0 bd).data else ([],0)));obtain ⟨r',hr'⟩:=aaR ((if k=4 then (l.drop 2).drop 1 else l.drop 2));rw [hq,hr'] at hu;rw [hq] at qb;rw [hr'] at rb;by_cases hc:(fP (l.getD 1 bd).data).2≠0\/q.2≠0\/1<r'.length
 ·rw [if_pos hc] at hu;cases hu
 rw [if_neg hc] at hu;rcases r' with _|⟨x,tl⟩
 ·cases hu;exact ⟨pb _,qb,by simp,by simp⟩
 ·simp only at hu;rw [ahG] at hu;obtain ⟨a,ha,rfl⟩:=hu;obtain ⟨_,x1,x2⟩:=hk x (rb x (by simp));obtain ⟨i1,i2⟩:=aai ha x2;refine ⟨pb _,qb,⟨by simp only;omega,fun y hy=>?_⟩⟩;obtain ⟨j1,j2,j3⟩:=i2 y hy;exact ⟨by omega,by omega,fun v hv=>by have:=j3 v hv;omega⟩
def rdA (p:Upd×Int):AV:=.tup [.agg (dO p.1),.int .i64 p.2]
theorem acD {s:List UInt8} (hs:s.length<=1100000) (h:K (rdA (rdU s)) L):afB 37 [.str s] L K:=by
 have hno:∀ e,rdU s=(yz,e)->K (.tup [.agg [.int .i64 0,.sl [] 0 none,.sl [] 0 none,.sl [] 0 none],.int .i64 e]) L:=fun e he=>by rw [he] at h;exact h
 rcases hw:uN s with e|n
 ·have h':=hid (hno e (by rw [rdU,hw]));have he:=VZ hw;have kk1:Hid (Ctr Tryz.prog 70 [.str s] (.tup [.agg [.int .i64 0,.str [],.sl [] 0 none],.int .i64 e])):=@hid _ (by intro L K q;exact Zy (by omega) (by rw [hw];exact q));clear hno hw h;refine acg fU ?_;exact ay (ab rfl h'.out)
 have kk1:Hid (Ctr Tryz.prog 70 [.str s] (.tup [.agg [.int .i64 n.tag,.str n.data,.sl (aC n.kids) n.kids.length none],.int .i64 0])):=@hid _ (by intro L K q;exact Zy (by omega) (by rw [hw,aas,bJ];exact q));have hz:szB 1100000 4 n:=OL (by omega) (Ym hw 4);rcases hy:V6 n with _|u
 ·have h':=hid (hno 4 (by rw [rdU,hw];simp only [hy]));have kk2:Hid (Ctr Tryz.prog 71 [.agg [.int .i64 n.tag,.str n.data,.sl (aC n.kids) n.kids.length none]] (.tup [.agg [.int .i64 0,.sl [] 0 none,.sl [] 0 none,.sl [] 0 none],.bool false])):=@hid _ (by intro L K q;rw [<- bJ];exact acq hz (by rw [hy];exact q));clear hno hw h hy hz;refine acg fU ?_;exact ay (ab rfl h'.out)
 obtain ⟨hd,ht,hu⟩:=To hs hw hy;have hub:agA u:=⟨hd,ht,by have:=hu.1;omega,fun a ha=>by have:=(hu.2 a ha).2.1;omega⟩;have kk2:Hid (Ctr Tryz.prog 71 [.agg [.int .i64 n.tag,.str n.data,.sl (aC n.kids) n.kids.length none]] (.tup [.agg (dO u),.bool true])):=@hid _ (by intro L K q;rw [<- bJ];exact acq hz (by rw [hy];exact q));obtain ⟨⟨w,e⟩,hwe⟩:∃ q,wrU u=q:=⟨_,rfl⟩;have kk3:Hid (Ctr Tryz.prog 34 [.agg (dO u)] (.tup [.str w,.int .i64 e])):=@hid _ (by intro L K q;exact VY hd ht hu (by rw [hwe];exact q));have hrd:rdU s=if e≠0\/w≠s then (yz,4) else (lD u,0):=by
  rw [rdU,hw];simp only [hy,hwe]
 by_cases hb:e≠0\/w≠s
 ·have h':=hid (hno 4 (by rw [hrd,if_pos hb]));clear hno hw h hy hz hrd hwe hub hd ht hu;by_cases c1:e=0
  ·have c2:¬ w=s:=by
    rcases hb with h1|h1
    ·exact absurd c1 h1
    ·exact h1
   clear hb;subst c1;refine acg fU ?_;exact ay (ab rfl h'.out)
  ·clear hb;refine acg fU ?_;exact ay (ab rfl h'.out)
 ·rw [hrd,if_neg hb,rdA] at h;simp only [not_or,ne_eq,ajP] at hb;obtain ⟨rfl,rfl⟩:=hb;have kk4:Hid (Ctr Tryz.prog 72 [.agg (dO u)] (.agg (dO (lD u)))):=@hid _ (by intro L K q;exact af8 hub q);replace h:=hid h;clear hno hw hy hz hrd hwe hub hd ht hu;refine acg fU ?_;exact ab (by simp only [AV.refs,AV.refsL,cQ,ko];rfl) h.out
def exD:List Rdn:=[[([100,99],[122])]]
def exU:Upd:=⟨2,exD,[],[]⟩
def exS:List UInt8:=[48,9,2,1,2,4,4,100,99,61,122]
theorem Zh:wrU exU=(exS,0):=by kernel_rfl
theorem af1:rdU exS=(exU,0):=by
 have h1:(wrU exU).2=0:=by rw [Zh]
 have:=agE (u:=exU) ⟨by simp [exU],by simp [exU]⟩ h1;rw [Zh] at this;exact this
theorem af2:(prS exD).2=0:=by kernel_rfl
theorem adn:dnB exD:=⟨by simp [exD],fun r hr=>by simp [exD] at hr;subst hr;simp⟩
end Go.Proofs.YtobihfefmlgaoaaGreat.Av
