/- Joined texts of the walk, made small by a program. -/
import Derived.Test.YtdhjplmjpjfjnaaGreatHTrO
import Derived.Test.YtdhjplmjpjfjnaaGreatHCodeT4
import Derived.Test.YtdhjplmjpjfjnaaGreatHA1
import Derived.Test.YtdhjplmjpjfjnaaGreatHP5
set_option linter.unusedSimpArgs false
set_option linter.unusedVariables false
namespace Go.Proofs.YtdhjplmjpjfjnaaGreat.Av
open Go
variable {L:List Blk} {K:AV→List Blk→Prop}
set_option maxHeartbeats 8000000
set_option maxRecDepth 100000
theorem K5 {xs:List (List UInt8)} {cap:Option Nat} (hn:xs.length≤1100000) (h:K (.sl (xs.map AV.str) xs.length none) L) :
   ab Tryz.prog 75 [.sl (xs.map AV.str) xs.length cap] L K:=by
 replace h:=hid h
 by_cases h0:xs=[]
 · subst h0
   refine aa dV (by simp [be]) ?_
   simp only [be,am]
   repeat' first
     | refine dT ?_
     | (first|refine cA (by kernel_rfl) ?_|refine bM (by kernel_rfl) ?_|refine bN ?_|refine fN ?_|refine ez (fun _=>?_)|refine bv ?_|refine cC ?_)
       refine sm ?_
     | (first|refine ct (by kernel_rfl) ?_|refine co ?_|refine cB ?_|refine eF (bu ?_))
       refine sl ?_
     | exact eA
     | first|apply eB|apply cu|apply eC|apply cv|apply eD|apply cw
     | refine bQ ?_
     | first|refine bO rfl ?_|refine bP rfl ?_|refine aX rfl ?_ ?_|refine bX rfl (fun _=>?_) (fun _=>?_)|refine bW rfl (fun _=>?_) (fun _=>?_)
     | ((first|refine aW (fun _=>?_) (fun _=>?_)|refine br (fun _=>?_) (fun _=>?_))<;>try refine sm ?_)
     | refine And.intro trivial ?_
     | refine And.intro (by omega) ?_
     | refine bR rfl (fun _=>?_) (fun _=>?_)
     | refine And.intro ?_ ?_
   all_goals
     refine cz ?_
     rw [show (AV.sl [] 0 (some 0)).frz=.sl (([]:List (List UInt8)).map AV.str) ([]:List (List UInt8)).length none from rfl]
     exact ak h.out
 · have h1:¬ xs.length=0:=fun c=>h0 (List.length_eq_zero_iff.1 c)
   have h2:(xs.map AV.str).all AV.one=true:=by rw [List.all_eq_true];intro a ha;obtain ⟨r,_,rfl⟩:=List.mem_map.1 ha;rfl
   refine aa dV (by simp [be]) ?_
   simp only [be,am]
   refine wk ?_
   refine vz (i:=L.length) (l:=xs.map AV.str) (by simp) ?_
   rw [show (AV.lsl L.length 0 xs.length none 1).snap L.length (xs.map AV.str)=.sl (xs.map AV.str) xs.length none from by simp [AV.snap,List.take_of_length_le],show (L++[Blk.cells (xs.map AV.str)]).set L.length .dead=L++[.dead] by simp]
   exact ac (by simp only [AV.refs];exact vB _ _) h.out
theorem CU {l:List Atr} {cap:Option Nat} (hl:l.length≤1100000) (hz:∀ a∈l,a.2.length≤1100000) (h:K (.sl (bg l) l.length none) L) :
   ab Tryz.prog 48 [.sl (bg l) l.length cap] L K:=by
 replace h:=hid h
 have kC:Hid (∀ {xs:List (List UInt8)} {c:Option Nat} (hx:xs.length≤1100000) {L:List Blk} {K:AV→List Blk→Prop},K (.sl (xs.map AV.str) xs.length none) L→ab Tryz.prog 75 [.sl (xs.map AV.str) xs.length c] L K):=@hid _ (by intro xs c hx L K q;exact K5 hx q)
 refine aa D6 (by simp [vm]) ?_
 simp only [vm,am]
 refine wk ?_
 refine cq (l:=[]) (n:=0) 3 2 rfl (Nat.zero_mul 2).symm ?_
 refine ax (fun m T' L'=>∃ (k:Nat) (C:List AV) (X:List Blk),m=l.length - k∧k≤l.length∧C=bg (l.take k)∧T'=[(8,.int .i64 (k:Int)),(7,.int .i64 l.length),(6,.sl (bg l) l.length cap),(3,.gsl C k L.length 2)]∧L'=L++(.spare k 2::X)) (CutS (b:=by simp)) ⟨0,[],[],rfl,Nat.zero_le _,rfl,rfl,rfl⟩ ?_
 rintro _ _ _ ⟨k,C,X,rfl,hk,hC,rfl,rfl⟩
 by_cases hlt:k<l.length
 · have g1:(k:Int)<(l.length:Int):=by omega
   have g2:IntKind.i64.wrap ((k:Int)+1)=(k:Int)+1:=ah (by omega) (by omega)
   have e3:=C6 hlt
   have e4:k * 2+2≤(bg l).length:=by rw [Eg];omega
   obtain ⟨⟨nm,vs⟩,ha⟩:∃ a,l.getD k ([],[])=a:=⟨_,rfl⟩
   have htk:bg (l.take (k+1))=bg (l.take k)++[.str nm,.sl (vs.map AV.str) vs.length none]:=by
     rw [List.take_succ_eq_append_getElem hlt,G6,show l[k]=(nm,vs) by rw [← ha];simp [hlt]]
     rfl
   have hvs:=hz (nm,vs) (by rw [← ha];simp [hlt])
   simp only at hvs
   rw [ha] at e3
   simp only [atA] at e3
   have e0:AV.frzL (vs.map AV.str)=vs.map AV.str:=DP vs
   replace htk:=hid htk
   replace hC:=hid hC
   have kk1:Hid (∀ {c:Option Nat} {L:List Blk} {K:AV→List Blk→Prop},K (.sl (vs.map AV.str) vs.length none) L→ab Tryz.prog 75 [.sl (vs.map AV.str) vs.length c] L K):=@hid _ (by intro c L K q;exact kC.out hvs q)
   clear ha hz kC
   refine wk ?_
   exact ay _ _ _ (by omega) (CutL (b:=by simp)) ⟨k+1,_,_,rfl,hlt,by rw [htk.out,hC.out],rfl,rfl⟩
 · have hke:k=l.length:=by omega
   subst hke
   have g1:¬ (l.length:Int)<(l.length:Int):=by omega
   rw [List.take_length] at hC
   subst hC
   have e0:=gK l
   refine wk ?_
   refine cz ?_
   simp only [AV.frz,e0]
   exact ac (by simp only [AV.refs,zZ]) h.out
theorem Gc {L:List Blk} {iv mn mi:Nat} {nb bn:Int→Nat} {ck ci:Nat} {rs:List TKy} {suf:List Rdn} {last:Int} {l:List az} (ht:TOk suf last l) (hb:∀ x∈l,x.av.length≤1100000∧∀ a∈x.av,a.2.length≤1100000) (hc:aR L iv mn mi nb bn ck ci rs suf last l) {id:Int} {K:AV→List Blk→Prop}
   (h0:mE l id=none→K (.tup [dnA [],atR []]) L) (h:∀ x,mE l id=some x→K (.tup [dnA x.nm,atR x.av]) L) :
   ab Tryz.prog 16 [.ptr iv 0,.int .i64 id] L K:=by
 have hv:=hc.v
 have hn:=hc.n
 have hkf:aT .int (.int .i64 id)=true:=rfl
 rcases hc.node id with ⟨e1,e2⟩|⟨x,n,e1,hx,hxi,e2,e3⟩
 · replace h:=hid (h0 e1)
   clear hc e1 h0 hb ht
   refine aa jn (by simp [dM]) ?_
   simp only [dM,am]
   refine wk ?_
   refine cz ?_
   rw [show (AV.tup [.sl [] 0 (some 0),.sl [] 0 (some 0)]).frz=.tup [dnA [],atR []] from rfl]
   exact ak h.out
 · replace h:=hid (h x e1)
   unfold gE at e3
   have hox:=(ht.ok x hx).m.b
   have hbx:=hb x hx
   obtain ⟨xi,xn,xv⟩:=x
   simp only at e3 hox hbx h
   have kk1:Hid (∀ {c:Option Nat} {L:List Blk} {K:AV→List Blk→Prop},K (dnA xn) L→ab Tryz.prog 47 [.sl (xn.map ao) xn.length none,.sl [] 0 c] L K):=@hid _ (by intro c L K q;exact FK hox.1 hox.2 q)
   have kk2:Hid (Ctr Tryz.prog 48 [.sl (bg xv) xv.length none] (atR xv)):=@hid _ (by intro L K q;exact CU hbx.1 hbx.2 q)
   obtain ⟨q,hq⟩:∃ q,aO (cE l) (NK xn)=q:=⟨_,rfl⟩
   rw [hq] at e3
   unfold atR at e3 kk2 h
   clear hc e1 h0 hb ht hx hxi hq hox hbx
   refine aa jn (by simp [dM]) ?_
   simp only [dM,am]
   refine wk ?_
   exact ak h.out
end Go.Proofs.YtdhjplmjpjfjnaaGreat.Av
