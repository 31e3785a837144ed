/- Joined texts of the walk, made small by a program. -/
import Derived.Test.YtdhjplmjpjfjnaaGreatHCodeT1
import Derived.Test.YtdhjplmjpjfjnaaGreatHCodeT2
import Derived.Test.YtdhjplmjpjfjnaaGreatHR2
import Derived.Test.YtdhjplmjpjfjnaaGreatHD2
import Derived.Test.YtdhjplmjpjfjnaaGreatHC2
import Derived.Test.YtdhjplmjpjfjnaaGreatHY1
import Derived.Test.YtdhjplmjpjfjnaaGreatHP5
import Derived.Test.YtdhjplmjpjfjnaaGreatHA1
import Derived.Test.YtdhjplmjpjfjnaaGreatHC3
set_option linter.unusedSimpArgs false
set_option linter.unusedVariables false
namespace Go.Proofs.YtdhjplmjpjfjnaaGreat.Av
open Go
variable {L:List Blk} {K:AV→List Blk→Prop}
set_option maxHeartbeats 8000000
set_option maxRecDepth 100000
def dnM (d:List Rdn):Prop:=d.length≤1100000∧∀ r∈d,r.length≤1100000∧∀ a∈r,(a.1.length:Int)≤140737488351232
theorem dnM.b {d:List Rdn} (h:dnM d):dnB d:=⟨h.1,fun r hr=>(h.2 r hr).1⟩
theorem Dy {d:List Rdn} (h:OkD d):d.length≤1000∧∀ r∈d,r.length≤1000∧∀ a∈r,a.1.length≤10000∧a.2.length≤10000:=by
 obtain ⟨q1,q2⟩:=Ds h
 exact ⟨by omega,fun r hr=>⟨by have:=(q2 r hr).1;omega,fun a ha=>⟨by have:=((q2 r hr).2 a ha).1;omega,by have:=((q2 r hr).2 a ha).2;omega⟩⟩⟩
theorem OkD.m {d:List Rdn} (h:OkD d):dnM d:=⟨by have:=(Dy h).1;omega,fun r hr=>⟨by have:=((Dy h).2 r hr).1;omega,fun a ha=>by have:=(((Dy h).2 r hr).2 a ha).1;omega⟩⟩
theorem LG {d:List Rdn} {cap:Option Nat} (hd:OkD d) (h:K (.str (aK true d)) L) :
   ab Tryz.prog 73 [.sl (d.map ao) d.length cap,.bool true] L K:=by
 obtain ⟨q1,q2⟩:=Ds hd
 have hrl:∀ r∈d,(bL true r).length≤200000:=fun r hr=>xV (q2 r hr).1 (fun a ha=>((q2 r hr).2 a ha).1) (fun a ha=>((q2 r hr).2 a ha).2)
 have htl:=xQ (by omega) hrl
 exact Ip (Dy hd).1 (Dy hd).2 (fun r hr=>by have:=hrl r hr;omega) (by omega) h
theorem Km {d:List Rdn} {cap:Option Nat} (hd:OkD d) (h:K (.str (aK true d)) L) :
   ab Tryz.prog 54 [.sl ((eJ d).map ao) d.length cap] L K:=by
 have hb:=Dy hd
 have hb2:∀ r∈eJ d,r.length≤1000∧∀ a∈r,a.1.length≤10000∧a.2.length≤10000:=fun r hr=>by
   obtain ⟨r0,hr0,rfl⟩:=List.mem_map.1 hr
   exact ⟨by rw [mz];exact (hb.2 r0 hr0).1,Du (hb.2 r0 hr0).2⟩
 have:=@CY (eJ d) cap (by rw [xj];exact hb.1) hb2 L K (by rw [pZ];exact h)
 rwa [xj] at this
theorem Io {d b:List Rdn} {cap cap':Option Nat} (hd:dnB d) (hb:dnB b) (h:K (.bool (bD d b)) L) :
   ab Tryz.prog 86 [.sl (d.map ao) d.length cap,.sl (b.map ao) b.length cap'] L K:=by
 have e0:bD d b=(decide (OkD d) && decide (OkD b) && decide (b.length≤d.length) && decide (aK true (d.drop (d.length - b.length))=aK true b)):=rfl
 obtain ⟨⟨ps,pe⟩,hp⟩:∃ q,prS d=q:=⟨_,rfl⟩
 obtain ⟨⟨ns,ne⟩,hn⟩:∃ q,zI b=q:=⟨_,rfl⟩
 have kk1:Hid (Ctr Tryz.prog 50 [.sl (d.map ao) d.length cap] (.tup [.str ps,.int .i64 pe])):=@hid _ (by intro L K q;exact pW hd.1 hd.2 (by rw [hp];exact q))
 have kk2:Hid (Ctr Tryz.prog 46 [.sl (b.map ao) b.length cap'] (.tup [.str ns,.int .i64 ne])):=@hid _ (by intro L K q;exact zJ hb.1 hb.2 (by rw [hn];exact q))
 have p1:OkD d↔pe=0:=by unfold OkD;rw [hp]
 by_cases h1:pe=0
 rotate_left
 · rw [e0,decide_eq_false (fun c=>h1 (p1.1 c))] at h
   simp only [Bool.false_and] at h
   replace h:=hid h
   clear hp hn e0 p1 hd hb
   refine aa iz (by simp [eM]) ?_
   simp only [eM,am]
   refine wk ?_
   exact ak h.out
 have hod:OkD d:=p1.2 h1
 by_cases h2:ne=0
 rotate_left
 · rw [e0,decide_eq_false (p:=OkD b) (fun c=>h2 (by have:=eX c;rw [hn] at this;injection this))] at h
   simp only [Bool.false_and,Bool.and_false] at h
   replace h:=hid h
   subst h1
   clear hp hn e0 p1 hd hb hod
   refine aa iz (by simp [eM]) ?_
   simp only [eM,am]
   refine wk ?_
   exact ak h.out
 have hob:OkD b:=by
   by_cases c:OkD b
   · exact c
   · exact absurd (by rw [hn];exact h2) (zd c)
 have hns:ns=aK true b:=by have:=eX hob;rw [hn] at this;injection this
 rw [decide_eq_true hod,decide_eq_true hob] at e0
 simp only [Bool.true_and] at e0
 subst h1 h2
 by_cases h3:b.length≤d.length
 rotate_left
 · rw [e0,decide_eq_false h3] at h
   simp only [Bool.false_and] at h
   replace h:=hid h
   have g1:(d.length:Int)<(b.length:Int):=by omega
   clear hp hn e0 p1 hd hb hod hob hns
   refine aa iz (by simp [eM]) ?_
   simp only [eM,am]
   refine wk ?_
   exact ak h.out
 rw [e0,decide_eq_true h3,← hns] at h
 simp only [Bool.true_and] at h
 obtain ⟨k,hk⟩:∃ k,d.length - b.length=k:=⟨_,rfl⟩
 rw [hk] at h
 have kk3:Hid (∀ {c:Option Nat} {L:List Blk} {K:AV→List Blk→Prop},K (.str (aK true (d.drop k))) L→ab Tryz.prog 73 [.sl (List.take (d.length - k) (List.drop k (d.map ao))) (d.length - k) c,.bool true] L K):=@hid _ (by
   intro c L K q
   have:=LG (cap:=c) (hod.drop k) q
   rw [List.length_drop] at this
   rw [← List.map_drop,List.take_of_length_le (by simp)]
   exact this)
 have g1:¬ (d.length:Int)<(b.length:Int):=by omega
 have hl:d.length≤32:=hod.len
 have g2:IntKind.i64.wrap ((d.length:Int) - (b.length:Int))=(k:Int):=by rw [ah (by omega) (by omega)];omega
 have g3:(k:Int)≤(d.length:Int):=by omega
 replace h:=hid h
 clear hp hn e0 p1 hd hb hod hob hns hk h3 hl
 refine aa iz (by simp [eM]) ?_
 simp only [eM,am]
 refine wk ?_
 exact ak h.out
theorem oF {d b:List Rdn} {cap cap':Option Nat} (hd:dnM d) (hb:dnM b) (h:K (.bool (bD d b)) L) :
   ab Tryz.prog 22 [.sl (d.map ao) d.length cap,.sl (b.map ao) b.length cap'] L K:=by
 have e0:bD d b=(decide (OkD d) && decide (OkD b) && decide (b.length≤d.length) && decide (aK true (d.drop (d.length - b.length))=aK true b)):=rfl
 obtain ⟨⟨ps,pe⟩,hp⟩:∃ q,prS d=q:=⟨_,rfl⟩
 obtain ⟨⟨ns,ne⟩,hn⟩:∃ q,zI b=q:=⟨_,rfl⟩
 have kk1:Hid (Ctr Tryz.prog 52 [.sl (d.map ao) d.length cap] (.tup [.str ps,.int .i64 pe])):=@hid _ (by intro L K q;exact lG hd.1 hd.2 (by rw [hp];exact q))
 have kk2:Hid (Ctr Tryz.prog 53 [.sl (b.map ao) b.length cap'] (.tup [.str ns,.int .i64 ne])):=@hid _ (by intro L K q;exact Dh hb.1 hb.2 (by rw [hn];exact q))
 have p1:OkD d↔pe=0:=by unfold OkD;rw [hp]
 by_cases h1:pe=0
 rotate_left
 · rw [e0,decide_eq_false (fun c=>h1 (p1.1 c))] at h
   simp only [Bool.false_and] at h
   replace h:=hid h
   clear hp hn e0 p1 hd hb
   refine aa fj (by simp [cn]) ?_
   simp only [cn,am]
   refine wk ?_
   exact ak h.out
 have hod:OkD d:=p1.2 h1
 by_cases h2:ne=0
 rotate_left
 · rw [e0,decide_eq_false (p:=OkD b) (fun c=>h2 (by have:=eX c;rw [hn] at this;injection this))] at h
   simp only [Bool.false_and,Bool.and_false] at h
   replace h:=hid h
   subst h1
   clear hp hn e0 p1 hd hb hod
   refine aa fj (by simp [cn]) ?_
   simp only [cn,am]
   refine wk ?_
   exact ak h.out
 have hob:OkD b:=by
   by_cases c:OkD b
   · exact c
   · exact absurd (by rw [hn];exact h2) (zd c)
 have hns:ns=aK true b:=by have:=eX hob;rw [hn] at this;injection this
 rw [decide_eq_true hod,decide_eq_true hob] at e0
 simp only [Bool.true_and] at e0
 subst h1 h2
 by_cases h3:b.length≤d.length
 rotate_left
 · rw [e0,decide_eq_false h3] at h
   simp only [Bool.false_and] at h
   replace h:=hid h
   have g1:(d.length:Int)<(b.length:Int):=by omega
   clear hp hn e0 p1 hd hb hod hob hns
   refine aa fj (by simp [cn]) ?_
   simp only [cn,am]
   refine wk ?_
   exact ak h.out
 rw [e0,decide_eq_true h3,← hns] at h
 simp only [Bool.true_and] at h
 obtain ⟨k,hk⟩:∃ k,d.length - b.length=k:=⟨_,rfl⟩
 rw [hk] at h
 have kk3:Hid (∀ {c:Option Nat} {L:List Blk} {K:AV→List Blk→Prop},K (.sl ((eJ (d.drop k)).map ao) (d.length - k) none) L→ab Tryz.prog 55 [.sl (List.take (d.length - k) (List.drop k (d.map ao))) (d.length - k) c] L K):=@hid _ (by
   intro c L K q
   have hb:=Dy (hod.drop k)
   have:=@Gk (d.drop k) c hb.1 hb.2 L K (by rw [List.length_drop];exact q)
   rw [List.length_drop] at this
   rw [← List.map_drop,List.take_of_length_le (by simp)]
   exact this)
 have kk4:Hid (∀ {c:Option Nat} {L:List Blk} {K:AV→List Blk→Prop},K (.str (aK true (d.drop k))) L→ab Tryz.prog 54 [.sl ((eJ (d.drop k)).map ao) (d.length - k) c] L K):=@hid _ (by
   intro c L K q
   have:=Km (cap:=c) (hod.drop k) q
   rw [List.length_drop] at this
   exact this)
 have g1:¬ (d.length:Int)<(b.length:Int):=by omega
 have hl:d.length≤32:=hod.len
 have g2:IntKind.i64.wrap ((d.length:Int) - (b.length:Int))=(k:Int):=by rw [ah (by omega) (by omega)];omega
 have g3:(k:Int)≤(d.length:Int):=by omega
 replace h:=hid h
 clear hp hn e0 p1 hd hb hod hob hns hk h3 hl
 refine aa fj (by simp [cn]) ?_
 simp only [cn,am]
 refine wk ?_
 exact ak h.out
abbrev az:=Ent (List Atr)
instance:Inhabited az:=⟨⟨0,[],[]⟩⟩
def atR (v:List Atr):AV:=.sl (bg v) v.length none
def zp (x:az):List AV:=[.int .i64 x.id,dnA x.nm,atR x.av]
def aM (l:List az):List AV:=l.flatMap zp
theorem io (l:List az):(aM l).length=l.length * 3:=by
 induction l with
 | nil=>rfl
 | cons x l ih =>
   unfold aM at ih ⊢
   rw [List.flatMap_cons,List.length_append,ih,List.length_cons]
   simp only [zp,List.length_cons,List.length_nil];omega
theorem pP (l m:List az):aM (l++m)=aM l++aM m:=by simp [aM]
theorem H3 (l:List az) (k:Nat):(aM l).drop (k * 3)=aM (l.drop k):=by
 induction l generalizing k with
 | nil=>simp [aM]
 | cons x l ih =>
   cases k with
   | zero=>simp
   | succ k =>
     rw [List.drop_succ_cons,← ih k,show (k+1) * 3=k * 3+1+1+1 by omega]
     simp [aM,zp]
theorem pO {l:List az} {k:Nat} (h:k<l.length):((aM l).drop (k * 3)).take 3=zp (l.getD k default):=by
 rw [H3,List.drop_eq_getElem_cons h,show l.getD k default=l[k] by simp [h]]
 unfold aM
 rw [List.flatMap_cons]
 rfl
theorem iq {l:List az} {k:Nat} (h:k<l.length):(aM l).getD (k * 3) .undef=.int .i64 (l.getD k default).id∧(aM l).getD (k * 3+1) .undef=dnA (l.getD k default).nm∧(aM l).getD (k * 3+2) .undef=atR (l.getD k default).av:=by
 have hh:∀ j,j<3→(aM l).getD (k * 3+j) .undef=(zp (l.getD k default)).getD j .undef:=fun j hj=>by
   have h3:=congrArg (fun l=>l[j]?) (pO h)
   simp only [List.getElem?_take_of_lt hj,List.getElem?_drop] at h3
   rw [List.getD_eq_getElem?_getD,h3]
   exact (List.getD_eq_getElem?_getD ..).symm
 exact ⟨by have:=hh 0 (by omega);simpa [zp] using this,by have:=hh 1 (by omega);simpa [zp] using this,by have:=hh 2 (by omega);simpa [zp] using this⟩
theorem Ge {d:List Rdn} {cap:Option Nat} (hn:d.length≤1100000) (hr:∀ r∈d,r.length≤1100000) (h:K (dnA d) L) :
   ab Tryz.prog 51 [.sl (d.map ao) d.length cap] L K:=by
 replace h:=hid h
 have hat:=hid (fun k=>@ij d k)
 replace hr:=hid hr
 refine aa CK (by simp [qi]) ?_
 simp only [qi,am]
 refine wk ?_
 refine cq (l:=[]) (n:=0) 3 1 rfl (Nat.zero_mul 1).symm ?_
 refine ax (fun m T' L'=>∃ (k:Nat) (C:List AV) (X:List Blk),m=d.length - k∧k≤d.length∧Hid (C=(d.take k).map ao)∧T'=[(8,.int .i64 (k:Int)),(7,.int .i64 d.length),(6,.sl (d.map ao) d.length cap),(3,.gsl C k L.length 1)]∧L'=L++(.spare k 1::X)) (CutS (b:=by simp)) ⟨0,[],[],rfl,Nat.zero_le _,hid rfl,rfl,by simp⟩ ?_
 rintro _ _ _ ⟨k,C,X,rfl,hk,hC,rfl,rfl⟩
 by_cases hlt:k<d.length
 · have g1:(k:Int)<(d.length:Int):=by omega
   have g2:IntKind.i64.wrap ((k:Int)+1)=(k:Int)+1:=ah (by omega) (by omega)
   have e2:=hat.out k hlt
   have e3:k<(d.map ao).length:=by simpa using hlt
   obtain ⟨r,hri⟩:∃ r,d.getD k []=r:=⟨_,rfl⟩
   have hrl:=hr.out r (by rw [← hri];simp [hlt])
   have htk:(d.take (k+1)).map ao=C++[.sl (aL r) r.length none]:=by
     rw [hC.out,List.take_succ_eq_append_getElem hlt,List.map_append,show d[k]=r by rw [← hri];simp [hlt]];rfl
   rw [hri] at e2
   have e4:=iu r
   have e5:=bt r
   replace htk:=hid htk
   clear hri hC
   refine wk ?_
   exact ay _ _ _ (by omega) (CutL (b:=by simp)) ⟨k+1,_,_,rfl,hlt,hid htk.out.symm,rfl,rfl⟩
 · have hke:k=d.length:=by omega
   subst hke
   have g1:¬ (d.length:Int)<(d.length:Int):=by omega
   have hC2:=hC.out
   rw [List.take_length] at hC2
   subst hC2
   clear hC
   refine wk ?_
   refine cz ?_
   simp only [AV.frz,bc]
   exact ac (by simp only [AV.refs,fc]) h.out
theorem LT {d:List Rdn} {cap cap':Option Nat} (hn:d.length≤1100000) (hr:∀ r∈d,r.length≤1100000) (h:K (.bool true) L) :
   ab Tryz.prog 18 [.sl (d.map ao) d.length cap,.sl (d.map ao) d.length cap'] L K:=by
 replace h:=hid h
 have hat:=hid (fun k=>@ij d k)
 replace hr:=hid hr
 refine aa CL (by simp [qj]) ?_
 simp only [qj,am]
 refine wk ?_
 refine ax (fun m T' L'=>∃ k:Nat,m=d.length - k∧k≤d.length∧T'=[(14,.int .i64 (k:Int)),(13,.int .i64 d.length),(0,.sl (d.map ao) d.length cap),(1,.sl (d.map ao) d.length cap')]∧L=L') (CutS (b:=Nat.le_refl _)) ⟨0,rfl,Nat.zero_le _,rfl,rfl⟩ ?_
 rintro _ _ L' ⟨k,rfl,hk,rfl,e⟩
 subst e
 by_cases hlt:k<d.length
 · have g1:(k:Int)<(d.length:Int):=by omega
   have g2:IntKind.i64.wrap ((k:Int)+1)=(k:Int)+1:=ah (by omega) (by omega)
   have e2:=hat.out k hlt
   have e3:k<(d.map ao).length:=by simpa using hlt
   obtain ⟨r,hri⟩:∃ r,d.getD k []=r:=⟨_,rfl⟩
   have hrl:=hr.out r (by rw [← hri];simp [hlt])
   rw [hri] at e2
   clear hri
   refine wk ?_
   refine ax (fun m T' L'=>∃ j:Nat,m=r.length - j∧j≤r.length∧T'=[(33,.int .i64 (j:Int)),(32,.int .i64 r.length),(5,.int .i64 (k:Int)),(14,.int .i64 (k:Int)),(13,.int .i64 d.length),(0,.sl (d.map ao) d.length cap),(1,.sl (d.map ao) d.length cap')]∧L=L') (CutS (b:=Nat.le_refl _)) ⟨0,rfl,Nat.zero_le _,rfl,rfl⟩ ?_
   rintro _ _ L' ⟨j,rfl,hj,rfl,e⟩
   subst e
   by_cases hjl:j<r.length
   · have j1:(j:Int)<(r.length:Int):=by omega
     have j2:IntKind.i64.wrap ((j:Int)+1)=(j:Int)+1:=ah (by omega) (by omega)
     have e5:=dQ hjl
     have e6:j * 2+2≤(aL r).length:=by rw [bt];omega
     obtain ⟨⟨ty,va⟩,ha⟩:∃ a,r.getD j ([],[])=a:=⟨_,rfl⟩
     rw [ha] at e5
     simp only [lF] at e5
     clear ha
     refine wk ?_
     exact ay _ _ _ (by omega) (CutL (b:=by simp)) ⟨j+1,rfl,hjl,rfl,rfl⟩
   · have j1:¬ (j:Int)<(r.length:Int):=by omega
     refine wk ?_
     exact ay _ _ _ (by omega) (CutL (b:=by simp)) ⟨k+1,rfl,hlt,rfl,rfl⟩
 · have g1:¬ (k:Int)<(d.length:Int):=by omega
   refine wk ?_
   exact ak h.out
def plI (o:Option Nat):Int:=match o with|some i=>(i:Int)|none=>-1
theorem Ff {β:Type} {f:β→Bool} {l:List β} {k:Nat} [Inhabited β] (hk:k<l.length) (h:∀ j,j<k→f (l.getD j default)=false) (hf:f (l.getD k default)=true):l.findIdx? f=some k:=by
 rw [List.findIdx?_eq_some_iff_getElem]
 refine ⟨hk,by simpa [hk] using hf,fun j hj=>?_⟩
 have:=h j hj
 simpa [show j<l.length by omega] using this
theorem Fg {β:Type} {f:β→Bool} {l:List β} [Inhabited β] (h:∀ j,j<l.length→f (l.getD j default)=false):l.findIdx? f=none:=by
 rw [List.findIdx?_eq_none_iff]
 intro x hx
 obtain ⟨j,hj,e⟩:=List.mem_iff_getElem.1 hx
 have:=h j hj
 rw [← e];simpa [hj] using this
def byI (l:List az) (id:Int):Int:=plI (l.findIdx? fun x=>decide (x.id=id))
def atI (l:List az) (d:List Rdn):Int:=if OkD d then plI (l.findIdx? fun x=>decide (NK x.nm=NK d)) else -1
theorem Ma {l:List az} {id:Int} {rt:Nat} {c:Option Nat} {a b:AV} (hn:l.length≤1100000) {L:List Blk} (hL:L[rt]?=some (.cells [a,.sl (aM l) l.length c,b])) {K:AV→List Blk→Prop} (h:K (.int .i64 (byI l id)) L) :
   ab Tryz.prog 43 [.ptr rt 0,.int .i64 id] L K:=by
 obtain ⟨R,hR⟩:∃ R,byI l id=R:=⟨_,rfl⟩
 rw [hR] at h
 replace h:=hid h
 replace hR:=hid hR
 have hel:=io l
 refine aa vq (by simp [gI]) ?_
 simp only [gI,am]
 refine wk ?_
 refine ax (fun m T' L'=>∃ k:Nat,m=l.length - k∧k≤l.length∧Hid (∀ j,j<k→¬ (l.getD j default).id=id)∧T'=[(11,.int .i64 (k:Int)),(10,.int .i64 l.length),(0,.ptr rt 0),(1,.int .i64 id)]∧L=L') (CutS (b:=Nat.le_refl _)) ⟨0,rfl,Nat.zero_le _,hid (fun j hj=>absurd hj (Nat.not_lt_zero _)),rfl,rfl⟩ ?_
 rintro _ _ L' ⟨k,rfl,hk,hI,rfl,e⟩
 subst e
 by_cases hlt:k<l.length
 · have g1:(k:Int)<(l.length:Int):=by omega
   have g2:IntKind.i64.wrap ((k:Int)+1)=(k:Int)+1:=ah (by omega) (by omega)
   have e4:k * 3+2<(aM l).length:=by rw [hel];omega
   have e4':k * 3<(aM l).length:=by omega
   obtain ⟨e5,_,_⟩:=iq hlt
   obtain ⟨x,hx⟩:∃ x,l.getD k default=x:=⟨_,rfl⟩
   rw [hx] at e5
   by_cases hid':x.id=id
   · have hr:R=(k:Int):=by
       rw [← hR.out];unfold byI
       rw [Ff hlt (fun j hj=>decide_eq_false (hI.out j hj)) (by rw [hx];simpa using hid')];rfl
     have h':=h.out
     rw [hr] at h'
     replace h':=hid h'
     obtain ⟨xi,hxi⟩:∃ i,x.id=i:=⟨_,rfl⟩
     rw [hxi] at e5 hid'
     subst hid'
     clear hx hxi hI hR hr
     refine wk ?_
     exact ak h'.out
   · obtain ⟨xi,hxi⟩:∃ i,x.id=i:=⟨_,rfl⟩
     rw [hxi] at e5 hid'
     have hI':=hid (fun j (hj:j<k+1)=>show ¬ (l.getD j default).id=id from by
       by_cases e:j=k
       · subst e;rw [hx,hxi];exact hid'
       · exact hI.out j (by omega))
     clear hx hxi hI hR
     refine wk ?_
     exact ay _ _ _ (by omega) (CutL (b:=by simp)) ⟨k+1,rfl,hlt,hI',rfl,rfl⟩
 · have hke:k=l.length:=by omega
   subst hke
   have g1:¬ (l.length:Int)<(l.length:Int):=by omega
   have hr:R=-1:=by
     rw [← hR.out];unfold byI
     rw [Fg (f:=fun x:az=>decide (x.id=id)) (l:=l) fun j hj=>decide_eq_false (hI.out j hj)];rfl
   have h':=h.out
   rw [hr] at h'
   replace h':=hid h'
   clear hI hR hr
   refine wk ?_
   exact ak h'.out
theorem ES {l:List az} (ho:∀ x∈l,OkD x.nm) {d:List Rdn} {cap:Option Nat} (hd:dnM d) {rt:Nat} {c:Option Nat} {a b:AV} (hn:l.length≤1100000) {L:List Blk} (hL:L[rt]?=some (.cells [a,.sl (aM l) l.length c,b])) {K:AV→List Blk→Prop} (h:K (.int .i64 (atI l d)) L) :
   ab Tryz.prog 49 [.ptr rt 0,.sl (d.map ao) d.length cap] L K:=by
 obtain ⟨⟨ns,ne⟩,hns⟩:∃ q,zI d=q:=⟨_,rfl⟩
 have kk1:Hid (Ctr Tryz.prog 53 [.sl (d.map ao) d.length cap] (.tup [.str ns,.int .i64 ne])):=@hid _ (by intro L K q;exact Dh hd.1 hd.2 (by rw [hns];exact q))
 have hel:=io l
 by_cases h0:ne=0
 rotate_left
 · have hod:¬ OkD d:=fun c=>h0 (by have:=eX c;rw [hns] at this;injection this)
   unfold atI at h
   rw [if_neg hod] at h
   replace h:=hid h
   clear hns hod ho hd
   refine aa mH (by simp [eR]) ?_
   simp only [eR,am]
   refine wk ?_
   refine ax (fun m T' L'=>m=1∧T'=[(7,.int .i64 0),(6,.int .i64 ne),(5,.str ns),(0,.ptr rt 0)]∧L=L') (CutS (b:=Nat.le_refl _)) ⟨rfl,rfl,rfl⟩ ?_
   rintro _ _ _ ⟨rfl,rfl,rfl⟩
   refine wk ?_
   exact ak h.out
 have hod:OkD d:=by
   by_cases c:OkD d
   · exact c
   · exact absurd (by rw [hns];exact h0) (zd c)
 have hs:ns=aK true d:=by have:=eX hod;rw [hns] at this;injection this
 subst h0
 obtain ⟨R,hR⟩:∃ R,plI (l.findIdx? fun x=>decide (NK x.nm=NK d))=R:=⟨_,rfl⟩
 unfold atI at h
 rw [if_pos hod,hR] at h
 replace h:=hid h
 replace hR:=hid hR
 have heq:=hid (fun (x:az) (hx:x∈l)=>show aK true x.nm=ns↔NK x.nm=NK d by rw [hs];exact fR (ho x hx) hod)
 replace ho:=hid ho
 clear hns hs hod hd
 refine aa mH (by simp [eR]) ?_
 simp only [eR,am]
 refine wk ?_
 refine ax (fun m T' L'=>∃ k:Nat,m=l.length - k∧k≤l.length∧Hid (∀ j,j<k→¬ NK (l.getD j default).nm=NK d)∧T'=[(7,.int .i64 (k:Int)),(6,.int .i64 0),(5,.str ns),(0,.ptr rt 0)]∧L=L') (CutS (b:=Nat.le_refl _)) ⟨0,rfl,Nat.zero_le _,hid (fun j hj=>absurd hj (Nat.not_lt_zero _)),rfl,rfl⟩ ?_
 rintro _ _ L' ⟨k,rfl,hk,hI,rfl,e⟩
 subst e
 by_cases hlt:k<l.length
 · have g1:(k:Int)<(l.length:Int):=by omega
   have g2:IntKind.i64.wrap ((k:Int)+1)=(k:Int)+1:=ah (by omega) (by omega)
   have e4:k * 3+1<(aM l).length:=by rw [hel];omega
   obtain ⟨_,e5,_⟩:=iq hlt
   obtain ⟨x,hx⟩:∃ x,l.getD k default=x:=⟨_,rfl⟩
   rw [hx] at e5
   have hxm:x∈l:=by rw [← hx];simp [hlt]
   have hq:=heq.out x hxm
   have hox:=ho.out x hxm
   obtain ⟨m,hm⟩:∃ m,aK true x.nm=m:=⟨_,rfl⟩
   have kk2:Hid (Ctr Tryz.prog 53 [.sl (x.nm.map ao) x.nm.length none] (.tup [.str m,.int .i64 0])):=@hid _ (by intro L K q;exact Dh hox.m.1 hox.m.2 (by rw [eX hox,hm];exact q))
   rw [hm] at hq
   obtain ⟨xn,hxn⟩:∃ xn,x.nm=xn:=⟨_,rfl⟩
   rw [hxn] at e5 kk2
   by_cases hms:m=ns
   · have hr:R=(k:Int):=by
       rw [← hR.out,Ff hlt (fun j hj=>decide_eq_false (hI.out j hj)) (by rw [hx];exact decide_eq_true (hq.1 hms))];rfl
     have h':=h.out
     rw [hr] at h'
     replace h':=hid h'
     subst hms
     clear hx hxm hI hR hr hq hox hm hxn heq ho
     refine wk ?_
     exact ak h'.out
   · have hms':¬ ns=m:=fun e=>hms e.symm
     have hI':=hid (fun j (hj:j<k+1)=>show ¬ NK (l.getD j default).nm=NK d from by
       by_cases e:j=k
       · subst e;rw [hx];exact fun c=>hms (hq.2 c)
       · exact hI.out j (by omega))
     clear hx hxm hI hR hq hox hm hxn heq ho
     refine wk ?_
     exact ay _ _ _ (by omega) (CutL (b:=by simp)) ⟨k+1,rfl,hlt,hI',rfl,rfl⟩
 · have hke:k=l.length:=by omega
   subst hke
   have g1:¬ (l.length:Int)<(l.length:Int):=by omega
   have hr:R=-1:=by
     rw [← hR.out,Fg (f:=fun x:az=>decide (NK x.nm=NK d)) (l:=l) fun j hj=>decide_eq_false (hI.out j hj)];rfl
   have h':=h.out
   rw [hr] at h'
   replace h':=hid h'
   clear hI hR hr heq ho
   refine wk ?_
   exact ak h'.out
abbrev TKy:=List UInt8×Int×Nat
def kyA (r:TKy):AV×AV×Nat:=(.str r.1,.int .i64 r.2.1,r.2.2)
def em (nb bn:Int→Nat) (x:az):AV×AV×Nat:=(.int .i64 x.id,.ptr (nb x.id) 0,bn x.id)
def gE (l:List az) (x:az):List AV:=[dnA x.nm,.sl (aB (pth x)) x.nm.length none,atR x.av,.int .i64 (aO (cE l) (NK x.nm):Nat)]
structure aR (L:List Blk) (iv mn mi:Nat) (nb bn:Int→Nat) (ck ci:Nat) (rs:List TKy) (suf:List Rdn) (last:Int) (l:List az):Prop where
 v:L[iv]?=some (.cells [dnA suf,.lmap mn,.lmap mi,.int .i64 last])
 n:L[mn]?=some (.map (l.map (em nb bn)) ck)
 i:L[mi]?=some (.map (rs.map kyA) ci)
 nd:∀ x∈l,L[nb x.id]?=some (.cells (gE l x))
 keys:(rs.map (·.1)).Nodup
 mem:∀ k id,(∃ b,(k,id,b)∈rs)↔∃ x∈l,aK true x.nm=k∧x.id=id
 bnd:(l.map fun x=>bn x.id).Nodup
 blt:∀ x∈l,bn x.id<ck
theorem aR.app {L:List Blk} {iv mn mi:Nat} {nb bn:Int→Nat} {ck ci:Nat} {rs:List TKy} {suf:List Rdn} {last:Int} {l:List az} (h:aR L iv mn mi nb bn ck ci rs suf last l) (X:List Blk):aR (L++X) iv mn mi nb bn ck ci rs suf last l:=by
 have key:∀ {i:Nat} {b:Blk},L[i]?=some b→(L++X)[i]?=some b:=fun {i b} e=>by
   rw [List.getElem?_append_left (List.getElem?_eq_some_iff.1 e).1];exact e
 exact ⟨key h.v,key h.n,key h.i,fun x hx=>key (h.nd x hx),h.keys,h.mem,h.bnd,h.blt⟩
theorem pJ:∀ (rs:List TKy) (k:List UInt8) (j:Nat),b7 (.str k) (rs.map kyA) j=some ((rs.findIdx? fun r=>decide (r.1=k)).map fun n=>(j+n,.int .i64 (rs.getD n default).2.1))
 | [],k,j=>rfl
 | r::rs,k,j=>by
   by_cases h:k=r.1
   · subst h
     simp [b7,kyA,sj,List.findIdx?_cons]
   · have h':¬ r.1=k:=fun e=>h e.symm
     simp only [List.map_cons,kyA,b7,sj,decide_eq_false h,List.findIdx?_cons,decide_eq_false h',Bool.false_eq_true,if_false]
     have ih:=pJ rs k (j+1)
     rw [ih]
     cases rs.findIdx? (fun r=>decide (r.1=k)) with
     | none=>rfl
     | some n=>simp only [Option.map_some];rw [show j+1+n=j+(n+1) by omega];rfl
theorem pH (nb bn:Int→Nat):∀ (l:List az) (id:Int) (j:Nat),b7 (.int .i64 id) (l.map (em nb bn)) j=some ((l.findIdx? fun x=>decide (x.id=id)).map fun n=>(j+n,.ptr (nb id) 0))
 | [],id,j=>rfl
 | x::l,id,j=>by
   by_cases h:id=x.id
   · subst h
     simp [b7,em,sj,List.findIdx?_cons]
   · have h':¬ x.id=id:=fun e=>h e.symm
     simp only [List.map_cons,em,b7,sj,if_true,decide_eq_false h,List.findIdx?_cons,decide_eq_false h',Bool.false_eq_true,if_false]
     have ih:=pH nb bn l id (j+1)
     rw [ih]
     cases l.findIdx? (fun x=>decide (x.id=id)) with
     | none=>rfl
     | some n=>simp only [Option.map_some];rw [show j+1+n=j+(n+1) by omega]
theorem dK {β:Type} {f:β→Bool} {l:List β} [Inhabited β]:(l.findIdx? f=none∧l.find? f=none)∨∃ n,l.findIdx? f=some n∧n<l.length∧l.find? f=some (l.getD n default):=by
 induction l with
 | nil=>exact .inl ⟨rfl,rfl⟩
 | cons x l ih =>
   by_cases h:f x=true
   · exact .inr ⟨0,by simp [List.findIdx?_cons,h],by simp,by simp [List.find?_cons,h]⟩
   · rcases ih with ⟨h1,h2⟩|⟨n,h1,h2,h3⟩
     · exact .inl ⟨by simp [List.findIdx?_cons,h,h1],by simp [List.find?_cons,h,h2]⟩
     · exact .inr ⟨n+1,by simp [List.findIdx?_cons,h,h1],by simpa using h2,by simp [List.find?_cons,h,h3]⟩
theorem aR.look {L:List Blk} {iv mn mi:Nat} {nb bn:Int→Nat} {ck ci:Nat} {rs:List TKy} {suf:List Rdn} {last:Int} {l:List az} (h:aR L iv mn mi nb bn ck ci rs suf last l) (ht:TOk suf last l) {d:List Rdn} (hd:OkD d) :
   (aN l d=0∧atE l d=none∧b7 (.str (aK true d)) (rs.map kyA) 0=some none)∨∃ j,b7 (.str (aK true d)) (rs.map kyA) 0=some (some (j,.int .i64 (aN l d))):=by
 rw [pJ]
 rcases dK (f:=fun r:TKy=>decide (r.1=aK true d)) (l:=rs) with ⟨h1,h2⟩|⟨n,h1,hn,h2⟩
 · left
   have hno:atE l d=none:=mJ.2 fun _ x hx e=>by
     obtain ⟨b,hb⟩:=(h.mem (aK true x.nm) x.id).2 ⟨x,hx,rfl,rfl⟩
     have:=List.find?_eq_none.1 h2 _ hb
     simp only [decide_eq_true_eq] at this
     exact this ((fR (ht.ok x hx) hd).2 e)
   exact ⟨ht.find0.2 hno,hno,by rw [h1];rfl⟩
 · right
   refine ⟨n,?_⟩
   obtain ⟨⟨k,id,b⟩,hr⟩:∃ r,rs.getD n default=r:=⟨_,rfl⟩
   have hm:=List.mem_of_find?_eq_some h2
   have hk:k=aK true d:=by have:=List.find?_some h2;rw [hr] at this;simpa using this
   rw [hr] at hm
   obtain ⟨x,hx,e1,e2⟩:=(h.mem k id).1 ⟨b,hm⟩
   have:atE l d=some x:=ht.at hx hd ((fR hd (ht.ok x hx)).1 (by rw [← hk,e1]))
   rw [h1]
   simp only [Option.map_some,hr,Nat.zero_add,aN,this,e2]
theorem ov {d:List Rdn} {cap:Option Nat} (hd:dnB d) {L:List Blk} {iv mn mi:Nat} {nb bn:Int→Nat} {ck ci:Nat} {rs:List TKy} {suf:List Rdn} {last:Int} {l:List az} (ht:TOk suf last l) (hc:aR L iv mn mi nb bn ck ci rs suf last l) {K:AV→List Blk→Prop} (h:K (.int .i64 (aN l d)) L) :
   ab Tryz.prog 15 [.ptr iv 0,.sl (d.map ao) d.length cap] L K:=by
 replace h:=hid h
 obtain ⟨⟨s,e⟩,hse⟩:∃ q,zI d=q:=⟨_,rfl⟩
 have kk1:Hid (Ctr Tryz.prog 46 [.sl (d.map ao) d.length cap] (.tup [.str s,.int .i64 e])):=@hid _ (by intro L K q;exact zJ hd.1 hd.2 (by rw [hse];exact q))
 have hv:=hc.v
 have hi:=hc.i
 by_cases he:e=0
 · subst he
   have hod:OkD d:=by
     by_cases c:OkD d
     · exact c
     · exact absurd (by rw [hse]) (zd c)
   have hs:s=aK true d:=by have:=eX hod;rw [hse] at this;injection this
   rcases hc.look ht hod with ⟨h0,_,h1⟩|⟨j,h1⟩
   · rw [← hs] at h1
     rw [h0] at h
     have hkf:aT .str (.str s)=true:=rfl
     clear hse hc hs
     refine aa bY (by simp [aP]) ?_
     simp only [aP,am]
     refine wk ?_
     exact ak h.out
   · rw [← hs] at h1
     have hkf:aT .str (.str s)=true:=rfl
     obtain ⟨z,hz⟩:∃ z,aN l d=z:=⟨_,rfl⟩
     rw [hz] at h h1
     clear hse hc hs hz
     refine aa bY (by simp [aP]) ?_
     simp only [aP,am]
     refine wk ?_
     exact ak h.out
 · have h0:aN l d=0:=by
     refine ht.find0.2 (mJ.2 fun c=>?_)
     have:=eX c
     rw [hse] at this
     exact absurd (by injection this) he
   rw [h0] at h
   clear hse hc
   refine aa bY (by simp [aP]) ?_
   simp only [aP,am]
   refine wk ?_
   exact ak h.out
theorem oo (l:List az) (d:List Rdn):(atI l d=-1∧atE l d=none)∨∃ n:Nat,n<l.length∧atI l d=n∧atE l d=some (l.getD n default):=by
 unfold atI atE
 by_cases h:OkD d
 · rw [if_pos h,if_pos h]
   rcases dK (f:=fun x:az=>decide (NK x.nm=NK d)) (l:=l) with ⟨h1,h2⟩|⟨n,h1,h2,h3⟩
   · exact .inl ⟨by rw [h1];rfl,h2⟩
   · exact .inr ⟨n,h2,by rw [h1];rfl,h3⟩
 · rw [if_neg h,if_neg h];exact .inl ⟨rfl,rfl⟩
theorem KZ (l:List az) (id:Int):(byI l id=-1∧mE l id=none)∨∃ n:Nat,n<l.length∧byI l id=n∧mE l id=some (l.getD n default):=by
 unfold byI mE
 rcases dK (f:=fun x:az=>decide (x.id=id)) (l:=l) with ⟨h1,h2⟩|⟨n,h1,h2,h3⟩
 · exact .inl ⟨by rw [h1];rfl,h2⟩
 · exact .inr ⟨n,h2,by rw [h1];rfl,h3⟩
theorem LZ {l:List az} (ho:∀ x∈l,OkD x.nm) {d:List Rdn} {cap:Option Nat} (hd:dnM d) {rt:Nat} {c:Option Nat} {a b:AV} (hn:l.length≤1100000) {L:List Blk} (hL:L[rt]?=some (.cells [a,.sl (aM l) l.length c,b])) {K:AV→List Blk→Prop} (h:K (.int .i64 (aN l d)) L) :
   ab Tryz.prog 17 [.ptr rt 0,.sl (d.map ao) d.length cap] L K:=by
 have kk1:Hid (∀ {K:AV→List Blk→Prop},K (.int .i64 (atI l d)) L→ab Tryz.prog 49 [.ptr rt 0,.sl (d.map ao) d.length cap] L K):=@hid _ (by intro K q;exact ES ho hd hn hL q)
 have hel:=io l
 unfold aN at h
 rcases oo l d with ⟨e1,e2⟩|⟨n,hlt,e1,e2⟩
 · rw [e2] at h
   rw [e1] at kk1
   replace h:=hid h
   clear ho hd e1 e2
   refine aa jp (by simp [dP]) ?_
   simp only [dP,am]
   refine wk ?_
   exact ak h.out
 · rw [e2] at h
   rw [e1] at kk1
   obtain ⟨e5,_,_⟩:=iq hlt
   obtain ⟨x,hx⟩:∃ x,l.getD n default=x:=⟨_,rfl⟩
   rw [hx] at e5 h
   obtain ⟨xi,hxi⟩:∃ i,x.id=i:=⟨_,rfl⟩
   simp only [hxi] at h
   rw [hxi] at e5
   have e4:n * 3<(aM l).length:=by rw [hel];omega
   have g1:¬ (n:Int)<0:=by omega
   replace h:=hid h
   clear ho hd e1 e2 hx hxi
   refine aa jp (by simp [dP]) ?_
   simp only [dP,am]
   refine wk ?_
   exact ak h.out
theorem LX {suf:List Rdn} {last:Int} {l:List az} (ht:TOk suf last l) {id:Int} {rt:Nat} {c:Option Nat} {a b:AV} (hn:l.length≤1100000) {L:List Blk} (hL:L[rt]?=some (.cells [a,.sl (aM l) l.length c,b])) {K:AV→List Blk→Prop} (h:K (.int .i64 (gy l id:Nat)) L) :
   ab Tryz.prog 61 [.ptr rt 0,.int .i64 id] L K:=by
 have kk1:Hid (∀ {K:AV→List Blk→Prop},K (.int .i64 (byI l id)) L→ab Tryz.prog 43 [.ptr rt 0,.int .i64 id] L K):=@hid _ (by intro K q;exact Ma hn hL q)
 have hel:=io l
 unfold gy at h
 rcases KZ l id with ⟨e1,e2⟩|⟨n,hlt,e1,e2⟩
 · rw [e2] at h
   rw [e1] at kk1
   replace h:=hid h
   clear e1 e2 ht
   refine aa jo (by simp [dO]) ?_
   simp only [dO,am]
   refine wk ?_
   refine ax (fun m T' L'=>∃ k:Nat,m=l.length - k∧k≤l.length∧T'=[(16,.int .i64 (k:Int)),(15,.int .i64 l.length),(6,.int .i64 0),(5,.int .i64 (-1)),(0,.ptr rt 0)]∧L=L') (CutS (b:=Nat.le_refl _)) ⟨0,rfl,Nat.zero_le _,rfl,rfl⟩ ?_
   rintro _ _ L' ⟨k,rfl,hk,rfl,e⟩
   subst e
   by_cases hkl:k<l.length
   · have g1:(k:Int)<(l.length:Int):=by omega
     have g2:IntKind.i64.wrap ((k:Int)+1)=(k:Int)+1:=ah (by omega) (by omega)
     refine wk ?_
     exact ay _ _ _ (by omega) (CutL (b:=by simp)) ⟨k+1,rfl,hkl,rfl,rfl⟩
   · have hke:k=l.length:=by omega
     subst hke
     have g1:¬ (l.length:Int)<(l.length:Int):=by omega
     refine wk ?_
     exact ak h.out
 · rw [e2] at h
   rw [e1] at kk1
   have hxm:l.getD n default∈l:=by simp [hlt]
   simp only at h
   rw [ht.kids hxm] at h
   obtain ⟨_,e5,_⟩:=iq hlt
   have hox:=ht.ok _ hxm
   obtain ⟨xn,hxn⟩:∃ x,(l.getD n default).nm=x:=⟨_,rfl⟩
   rw [hxn] at e5 h hox
   have e4:n * 3+1<(aM l).length:=by rw [hel];omega
   have g0:(0:Int)≤(n:Int):=by omega
   obtain ⟨R,hR⟩:∃ R,(l.filter fun k=>decide (k.nm.length=xn.length+1) && bD k.nm xn).length=R:=⟨_,rfl⟩
   rw [hR] at h
   have hlim:∀ k,((l.take k).filter fun k=>decide (k.nm.length=xn.length+1) && bD k.nm xn).length≤l.length:=fun k=>Nat.le_trans (List.length_filter_le _ _) (by simp;omega)
   replace hlim:=hid hlim
   replace h:=hid h
   replace hR:=hid hR
   have ho:=hid ht.ok
   have kU:Hid (∀ y∈l,∀ {K:AV→List Blk→Prop},K (.bool (bD y.nm xn)) L→ab Tryz.prog 22 [dnA y.nm,dnA xn] L K):=@hid _ (by intro y hy K q;exact oF (ho.out y hy).m hox.m q)
   have hw:IntKind.i64.wrap ((xn.length:Int)+1)=(xn.length:Int)+1:=by have:=hox.len;exact ah (by omega) (by omega)
   clear e1 e2 ht hxm hxn hox
   refine aa jo (by simp [dO]) ?_
   simp only [dO,am]
   refine wk ?_
   refine ax (fun m T' L'=>∃ (k s:Nat),m=l.length - k∧k≤l.length∧Hid (((l.take k).filter fun k=>decide (k.nm.length=xn.length+1) && bD k.nm xn).length=s)∧T'=[(16,.int .i64 (k:Int)),(15,.int .i64 l.length),(6,.int .i64 (s:Int)),(5,.int .i64 (n:Int)),(0,.ptr rt 0)]∧L=L') (CutS (b:=Nat.le_refl _)) ⟨0,0,rfl,Nat.zero_le _,hid rfl,rfl,rfl⟩ ?_
   rintro _ _ L' ⟨k,s,rfl,hk,hI,rfl,e⟩
   subst e
   by_cases hkl:k<l.length
   · have g1:(k:Int)<(l.length:Int):=by omega
     have g2:IntKind.i64.wrap ((k:Int)+1)=(k:Int)+1:=ah (by omega) (by omega)
     obtain ⟨_,e6,_⟩:=iq hkl
     have e7:k * 3+1<(aM l).length:=by rw [hel];omega
     have hym:l.getD k default∈l:=by simp [hkl]
     have htk:l.take (k+1)=l.take k++[l.getD k default]:=by rw [List.take_succ_eq_append_getElem hkl];simp [hkl]
     obtain ⟨y,hy⟩:∃ y,l.getD k default=y:=⟨_,rfl⟩
     rw [hy] at e6 hym htk
     have kk2:=@hid _ (fun {K:AV→List Blk→Prop}=>kU.out y hym (K:=K))
     have hs:=hlim.out k
     rw [hI.out] at hs
     have g3:IntKind.i64.wrap ((s:Int)+1)=(s:Int)+1:=ah (by omega) (by omega)
     have hI':((l.take (k+1)).filter fun k=>decide (k.nm.length=xn.length+1) && bD k.nm xn).length=s+(if y.nm.length=xn.length+1 then if bD y.nm xn=true then 1 else 0 else 0):=by
       rw [htk,List.filter_append,List.length_append,hI.out]
       congr 1
       by_cases c1:y.nm.length=xn.length+1
       · cases c2:bD y.nm xn<;>simp [c1,c2]
       · simp [c1]
     obtain ⟨yn,hyn⟩:∃ yn,y.nm=yn:=⟨_,rfl⟩
     rw [hyn] at e6 kk2 hI'
     obtain ⟨u,hu⟩:∃ u,bD yn xn=u:=⟨_,rfl⟩
     rw [hu] at kk2 hI'
     by_cases c1:yn.length=xn.length+1
     · have j1:((yn.length:Int)=(xn.length:Int)+1):=by omega
       rw [if_pos c1] at hI'
       cases u with
       | true =>
         replace hI':=hid hI'
         clear hI hym htk hy hyn hu kU c1 hs hR
         refine wk ?_
         exact ay _ _ _ (by omega) (CutL (b:=by simp)) ⟨k+1,s+1,rfl,hkl,hid hI'.out,rfl,rfl⟩
       | false =>
         replace hI':=hid hI'
         clear hI hym htk hy hyn hu kU c1 hs hR
         refine wk ?_
         exact ay _ _ _ (by omega) (CutL (b:=by simp)) ⟨k+1,s,rfl,hkl,hid hI'.out,rfl,rfl⟩
     · have j1:¬ ((yn.length:Int)=(xn.length:Int)+1):=by omega
       rw [if_neg c1] at hI'
       replace hI':=hid hI'
       clear hI hym htk hy hyn hu kU c1 hs hR
       refine wk ?_
       exact ay _ _ _ (by omega) (CutL (b:=by simp)) ⟨k+1,s,rfl,hkl,hid hI'.out,rfl,rfl⟩
   · have hke:k=l.length:=by omega
     subst hke
     have g1:¬ (l.length:Int)<(l.length:Int):=by omega
     have hIe:=hI.out
     rw [List.take_length,hR.out] at hIe
     have h':=h.out
     rw [hIe] at h'
     replace h':=hid h'
     clear hI hIe hR kU
     refine wk ?_
     exact ak h'.out
theorem aR.node {L:List Blk} {iv mn mi:Nat} {nb bn:Int→Nat} {ck ci:Nat} {rs:List TKy} {suf:List Rdn} {last:Int} {l:List az} (h:aR L iv mn mi nb bn ck ci rs suf last l) (id:Int) :
   (mE l id=none∧b7 (.int .i64 id) (l.map (em nb bn)) 0=some none)∨∃ x n,mE l id=some x∧x∈l∧x.id=id∧b7 (.int .i64 id) (l.map (em nb bn)) 0=some (some (n,.ptr (nb id) 0))∧L[nb id]?=some (.cells (gE l x)):=by
 rw [pH]
 unfold mE
 rcases dK (f:=fun x:az=>decide (x.id=id)) (l:=l) with ⟨h1,h2⟩|⟨n,h1,h2,h3⟩
 · exact .inl ⟨h2,by rw [h1];rfl⟩
 · right
   have hm:=List.mem_of_find?_eq_some h3
   have hi:(l.getD n default).id=id:=by have:=List.find?_some h3;simpa using this
   refine ⟨_,n,h3,hm,hi,by rw [h1];simp,?_⟩
   have:=h.nd _ hm
   rwa [hi] at this
end Go.Proofs.YtdhjplmjpjfjnaaGreat.Av
