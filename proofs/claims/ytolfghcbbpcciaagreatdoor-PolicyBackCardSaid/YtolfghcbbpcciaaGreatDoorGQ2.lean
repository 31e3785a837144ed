/- Joined texts of the walk, made small by a program. -/
import Derived.Test.YtolfghcbbpcciaaGreatDoorGQ1
import Derived.Test.YtolfghcbbpcciaaGreatDoorGP5
set_option linter.unusedSimpArgs false
set_option linter.unusedVariables false
namespace Go.Proofs.YtolfghcbbpcciaaGreatDoor.Av
open Go
variable {L:List Blk} {K:AV→List Blk→Prop}
set_option maxHeartbeats 8000000
theorem SM {fs:List Int} {lk ch:Int} {i:Nat} (hn:(fs.length:Int)≤4611686018427387904) (hLX:∀ X:List Blk,(L++X)[i]?=some (.cells (bc fs))) (h:K (.bool (fJ fs lk ch)) L) :
   ao Tryz.prog 13 [.agg [.lsl i 0 fs.length none 1,.int .i64 lk,.int .i64 ch]] L K:=by
 refine ag kP (by simp [fg]) ?_
 simp only [fg,aN]
 repeat' first
   | refine aT ?_
   | (first|refine aG (by kernel_rfl) ?_|refine ap (by kernel_rfl) ?_|refine aq ?_|refine aZ ?_|refine aO (fun _=>?_)|refine aj ?_|refine aK ?_|refine bI ?_|refine aL (bI ⟨rfl,rfl⟩) (bI ⟨rfl,rfl⟩) ?_|refine aB (bI ⟨rfl,rfl⟩) ?_)
     refine sm ?_
   | (first|refine aC (by kernel_rfl) ?_|refine aH ?_|refine aJ ?_|refine aU (ai ?_))
     refine sl ?_
   | exact aP
   | first|apply aQ|apply aD|apply aR|apply aE|apply aS|apply aF
   | refine aw ?_
   | first|refine ar rfl ?_|refine au rfl ?_|refine af rfl ?_ ?_|refine ay rfl (fun _=>?_) (fun _=>?_)|refine ax rfl (fun _=>?_) (fun _=>?_)
   | ((first|refine ae (fun _=>?_) (fun _=>?_)|refine ah (fun _=>?_) (fun _=>?_))<;>try refine sm ?_)
   | refine And.intro trivial ?_
   | refine And.intro (by omega) ?_
   | refine aA rfl (fun _=>?_) (fun _=>?_)
   | refine And.intro ?_ ?_
 refine aI (fun n T' L'=>∃ k,n=fs.length - k∧k≤fs.length∧T'=[(8,.int .i64 (k:Int)),(7,.int .i64 fs.length),(6,.lsl i 0 fs.length none 1),(1,.ptr L.length 0)]∧L'=L++[.cells [.lsl i 0 fs.length none 1,.int .i64 lk,.int .i64 ch]] ∧
   eZ 0 fs=eZ (Dm fs k) (fs.drop k)) (CutS (b:=Nat.le_refl _)) ⟨0,rfl,Nat.zero_le _,rfl,rfl,by simp [Dm]⟩ ?_
 rintro _ _ _ ⟨k,rfl,hk,rfl,rfl,hr⟩
 by_cases hlt:k<fs.length
 · have h1:(k:Int)<(fs.length:Int):=by omega
   have h2:IntKind.i64.wrap ((k:Int)+1)=(k:Int)+1:=ac (by omega) (by omega)
   have h3:IntKind.i64.wrap ((k:Int) - 1)=(k:Int) - 1:=ac (by omega) (by omega)
   have h4:(fs.map (AV.int .i64)).getD k .undef=.int .i64 (fs.getD k 0):=by simp [hlt]
   have h5:((k:Int) - 1).toNat=k - 1:=by omega
   have h6:(fs.map (AV.int .i64)).getD (k - 1) .undef=.int .i64 (fs.getD (k - 1) 0):=by simp [show k - 1<fs.length by omega]
   have h7:=KV hlt
   have h8:(0<(k:Int))→Dm fs k=fs.getD (k - 1) 0:=fun h=>by simp [Dm,show k≠0 by omega]
   have h9:¬ (0<(k:Int))→Dm fs k=0:=fun h=>by simp [Dm,show k=0 by omega]
   have h10:=@MW (fs.getD k 0)
   repeat' first
     | refine aT ?_
     | (first|refine aG (by kernel_rfl) ?_|refine ap (by kernel_rfl) ?_|refine aq ?_|refine aZ ?_|refine aO (fun _=>?_)|refine aj ?_|refine aK ?_|refine bI ?_|refine aL (bI ⟨rfl,rfl⟩) (bI ⟨rfl,rfl⟩) ?_|refine aB (bI ⟨rfl,rfl⟩) ?_)
       refine sm ?_
     | (first|refine aC (by kernel_rfl) ?_|refine aH ?_|refine aJ ?_|refine aU (ai ?_))
       refine sl ?_
     | exact aP
     | first|apply aQ|apply aD|apply aR|apply aE|apply aS|apply aF
     | refine aw ?_
     | first|refine ar rfl ?_|refine au rfl ?_|refine af rfl ?_ ?_|refine ay rfl (fun _=>?_) (fun _=>?_)|refine ax rfl (fun _=>?_) (fun _=>?_)
     | ((first|refine ae (fun _=>?_) (fun _=>?_)|refine ah (fun _=>?_) (fun _=>?_))<;>try refine sm ?_)
     | refine And.intro trivial ?_
     | refine And.intro (by omega) ?_
     | refine aA rfl (fun _=>?_) (fun _=>?_)
     | refine And.intro ?_ ?_
   all_goals first
     | refine az _ _ _ ?_ (CutS (b:=by simp)) ⟨k+1,rfl,hlt,rfl,rfl,?_⟩<;>first|omega|simp_all
     | skip
   all_goals (first|refine aa rfl (Kto h ?_)|refine ab (Kto h ?_)|refine aa (by simp only [AV.refs,AV.refsL, *];rfl) (Kto h ?_)|refine aX (aa rfl (Kto h ?_))|(trace_state;fail))
   all_goals (first|(simp [fJ, *];done)|(simp [fJ, *];omega)|(simp [fJ, *];intros;omega)|(simp_all [Hid,fJ];done)|(simp_all [Hid,fJ];omega))
 · have h1:¬ (k:Int)<(fs.length:Int):=by omega
   have h3:List.drop k fs=[]:=List.drop_eq_nil_of_le (by omega)
   repeat' first
     | refine aT ?_
     | (first|refine aG (by kernel_rfl) ?_|refine ap (by kernel_rfl) ?_|refine aq ?_|refine aZ ?_|refine aO (fun _=>?_)|refine aj ?_|refine aK ?_|refine bI ?_|refine aL (bI ⟨rfl,rfl⟩) (bI ⟨rfl,rfl⟩) ?_|refine aB (bI ⟨rfl,rfl⟩) ?_)
       refine sm ?_
     | (first|refine aC (by kernel_rfl) ?_|refine aH ?_|refine aJ ?_|refine aU (ai ?_))
       refine sl ?_
     | exact aP
     | first|apply aQ|apply aD|apply aR|apply aE|apply aS|apply aF
     | refine aw ?_
     | first|refine ar rfl ?_|refine au rfl ?_|refine af rfl ?_ ?_|refine ay rfl (fun _=>?_) (fun _=>?_)|refine ax rfl (fun _=>?_) (fun _=>?_)
     | ((first|refine ae (fun _=>?_) (fun _=>?_)|refine ah (fun _=>?_) (fun _=>?_))<;>try refine sm ?_)
     | refine And.intro trivial ?_
     | refine And.intro (by omega) ?_
     | refine aA rfl (fun _=>?_) (fun _=>?_)
     | refine And.intro ?_ ?_
   all_goals (first|refine aa rfl (Kto h ?_)|refine ab (Kto h ?_)|refine aa (by simp only [AV.refs,AV.refsL, *];rfl) (Kto h ?_)|refine aX (aa rfl (Kto h ?_))|(trace_state;fail))
   all_goals (first|(simp [fJ,eZ, *];done)|(simp [fJ,eZ, *];omega)|(simp [fJ,eZ, *];intros;omega)|(simp_all [Hid,fJ,eZ];done)|(simp_all [Hid,fJ,eZ];omega))
def W8 (ip inow:Nat) (a b c d now:Int) (L:List Blk):Prop:=L[ip]?=some (.cells [.int .i64 a,.int .i64 b,.int .i64 c,.int .i64 d])∧L[inow]?=some (.cells [.int .i64 now])
def PG (b now x:Int):Bool:=decide (0<b) && decide (b≤IntKind.i64.wrap (now - x))
theorem V1 (ip inow:Nat) (a b c d now:Int):Test 34 [.ptr ip 0,.ptr inow 0] (W8 ip inow a b c d now) (PG b now):=by
 intro L x K hok h
 obtain ⟨h1,h2⟩:=hok
 simp only [List.cons_append,List.nil_append]
 refine ag Iv (by simp [jH]) ?_
 simp only [jH,aN]
 repeat' first
   | refine aT ?_
   | (first|refine aG (by kernel_rfl) ?_|refine ap (by kernel_rfl) ?_|refine aq ?_|refine aZ ?_|refine aO (fun _=>?_)|refine aj ?_|refine aK ?_)
     refine sm ?_
   | (first|refine aC (by kernel_rfl) ?_|refine aH ?_|refine aJ ?_|refine aU (ai ?_))
     refine sl ?_
   | exact aP
   | first|apply aQ|apply aD|apply aR|apply aE|apply aS|apply aF
   | refine aw ?_
   | first|refine ar rfl ?_|refine au rfl ?_|refine af rfl ?_ ?_|refine ay rfl (fun _=>?_) (fun _=>?_)|refine ax rfl (fun _=>?_) (fun _=>?_)
   | ((first|refine ae (fun _=>?_) (fun _=>?_)|refine ah (fun _=>?_) (fun _=>?_))<;>try refine sm ?_)
   | refine And.intro trivial ?_
   | refine And.intro (by omega) ?_
   | refine aA rfl (fun _=>?_) (fun _=>?_)
   | refine And.intro ?_ ?_
 all_goals (first|refine aa rfl (Kto h ?_)|refine ab (Kto h ?_)|refine aa (by simp only [AV.refs,AV.refsL, *];rfl) (Kto h ?_)|refine aX (aa rfl (Kto h ?_))|(trace_state;fail))
 all_goals (first|(simp [PG, *];done)|(simp [PG, *];omega)|(simp [PG, *];intros;omega)|(simp_all [Hid,PG];done)|(simp_all [Hid,PG];omega))
theorem NF {f:FuncId} {caps:List AV} {cap:Option Nat} (h:K (.int .i64 (-1)) L):ao Tryz.prog 50 [.sl [] 0 cap,.func f caps] L K:=by
 refine ag dt (by simp [bn]) ?_
 simp only [bn,aN]
 repeat' first
   | refine aT ?_
   | (first|refine aG (by kernel_rfl) ?_|refine ap (by kernel_rfl) ?_|refine aq ?_|refine aZ ?_|refine aO (fun _=>?_)|refine aj ?_|refine aK ?_)
     refine sm ?_
   | (first|refine aC (by kernel_rfl) ?_|refine aH ?_|refine aJ ?_|refine aU (ai ?_))
     refine sl ?_
   | exact aP
   | first|apply aQ|apply aD|apply aR|apply aE|apply aS|apply aF
   | refine aw ?_
   | first|refine ar rfl ?_|refine au rfl ?_|refine af rfl ?_ ?_|refine ay rfl (fun _=>?_) (fun _=>?_)|refine ax rfl (fun _=>?_) (fun _=>?_)
   | ((first|refine ae (fun _=>?_) (fun _=>?_)|refine ah (fun _=>?_) (fun _=>?_))<;>try refine sm ?_)
   | refine And.intro trivial ?_
   | refine And.intro (by omega) ?_
   | refine aA rfl (fun _=>?_) (fun _=>?_)
   | refine And.intro ?_ ?_
 refine aI (fun n T' L'=>n=0∧T'=[(8,.int .i64 0),(7,.int .i64 0)]∧L'=L) (CutS (b:=Nat.le_refl _)) ⟨rfl,rfl,rfl⟩ ?_
 rintro _ _ _ ⟨rfl,rfl,rfl⟩
 repeat' first
   | refine aT ?_
   | (first|refine aG (by kernel_rfl) ?_|refine ap (by kernel_rfl) ?_|refine aq ?_|refine aZ ?_|refine aO (fun _=>?_)|refine aj ?_|refine aK ?_)
     refine sm ?_
   | (first|refine aC (by kernel_rfl) ?_|refine aH ?_|refine aJ ?_|refine aU (ai ?_))
     refine sl ?_
   | exact aP
   | first|apply aQ|apply aD|apply aR|apply aE|apply aS|apply aF
   | refine aw ?_
   | first|refine ar rfl ?_|refine au rfl ?_|refine af rfl ?_ ?_|refine ay rfl (fun _=>?_) (fun _=>?_)|refine ax rfl (fun _=>?_) (fun _=>?_)
   | ((first|refine ae (fun _=>?_) (fun _=>?_)|refine ah (fun _=>?_) (fun _=>?_))<;>try refine sm ?_)
   | refine And.intro trivial ?_
   | refine And.intro (by omega) ?_
   | refine aA rfl (fun _=>?_) (fun _=>?_)
   | refine And.intro ?_ ?_
 all_goals (first|refine aa rfl (Kto h ?_)|refine ab (Kto h ?_)|refine aa (by simp only [AV.refs,AV.refsL, *];rfl) (Kto h ?_)|refine aX (aa rfl (Kto h ?_))|(trace_state;fail))
 all_goals (first|(simp [*];done)|(simp [*];omega)|(simp [*];intros;omega)|(simp_all [Hid,Hid];done)|(simp_all [Hid,Hid];omega))
theorem NS {f:FuncId} {caps:List AV} {cap:Option Nat} (h:K (.sl [] 0 cap) L):ao Tryz.prog 33 [.sl [] 0 cap,.func f caps] L K:=by
 refine ag dc (by simp [bh]) ?_
 simp only [bh,aN]
 repeat' first
   | refine aT ?_
   | (first|refine aG (by kernel_rfl) ?_|refine ap (by kernel_rfl) ?_|refine aq ?_|refine aZ ?_|refine aO (fun _=>?_)|refine aj ?_|refine aK ?_|refine NF ?_|refine aL (NF ⟨rfl,rfl⟩) (NF ⟨rfl,rfl⟩) ?_|refine aB (NF ⟨rfl,rfl⟩) ?_)
     refine sm ?_
   | (first|refine aC (by kernel_rfl) ?_|refine aH ?_|refine aJ ?_|refine aU (ai ?_))
     refine sl ?_
   | exact aP
   | first|apply aQ|apply aD|apply aR|apply aE|apply aS|apply aF
   | refine aw ?_
   | first|refine ar rfl ?_|refine au rfl ?_|refine af rfl ?_ ?_|refine ay rfl (fun _=>?_) (fun _=>?_)|refine ax rfl (fun _=>?_) (fun _=>?_)
   | ((first|refine ae (fun _=>?_) (fun _=>?_)|refine ah (fun _=>?_) (fun _=>?_))<;>try refine sm ?_)
   | refine And.intro trivial ?_
   | refine And.intro (by omega) ?_
   | refine aA rfl (fun _=>?_) (fun _=>?_)
   | refine And.intro ?_ ?_
 all_goals (first|refine aa rfl (Kto h ?_)|refine ab (Kto h ?_)|refine aa (by simp only [AV.refs,AV.refsL, *];rfl) (Kto h ?_)|refine aX (aa rfl (Kto h ?_))|(trace_state;fail))
 all_goals (first|(simp [*];done)|(simp [*];omega)|(simp [*];intros;omega)|(simp_all [Hid,Hid];done)|(simp_all [Hid,Hid];omega))
theorem J0 {t:Int} {cap:Option Nat} (h:K (.tup [.int .i64 0,.bool false]) L):ao Tryz.prog 35 [.sl [] 0 cap,.int .i64 t] L K:=by
 refine ag cG (by simp [bd]) ?_
 simp only [bd,aN]
 repeat' first
   | refine aT ?_
   | (first|refine aG (by kernel_rfl) ?_|refine ap (by kernel_rfl) ?_|refine aq ?_|refine aZ ?_|refine aO (fun _=>?_)|refine aj ?_|refine aK ?_)
     refine sm ?_
   | (first|refine aC (by kernel_rfl) ?_|refine aH ?_|refine aJ ?_|refine aU (ai ?_))
     refine sl ?_
   | exact aP
   | first|apply aQ|apply aD|apply aR|apply aE|apply aS|apply aF
   | refine aw ?_
   | first|refine ar rfl ?_|refine au rfl ?_|refine af rfl ?_ ?_|refine ay rfl (fun _=>?_) (fun _=>?_)|refine ax rfl (fun _=>?_) (fun _=>?_)
   | ((first|refine ae (fun _=>?_) (fun _=>?_)|refine ah (fun _=>?_) (fun _=>?_))<;>try refine sm ?_)
   | refine And.intro trivial ?_
   | refine And.intro (by omega) ?_
   | refine aA rfl (fun _=>?_) (fun _=>?_)
   | refine And.intro ?_ ?_
 refine aI (fun n T' L'=>n=0∧T'=[(7,.int .i64 0),(8,.int .i64 0),(6,.int .i64 0),(0,.sl [] 0 cap)]∧L'=L) (CutS (b:=Nat.le_refl _)) ⟨rfl,rfl,rfl⟩ ?_
 rintro _ _ _ ⟨rfl,rfl,rfl⟩
 repeat' first
   | refine aT ?_
   | (first|refine aG (by kernel_rfl) ?_|refine ap (by kernel_rfl) ?_|refine aq ?_|refine aZ ?_|refine aO (fun _=>?_)|refine aj ?_|refine aK ?_)
     refine sm ?_
   | (first|refine aC (by kernel_rfl) ?_|refine aH ?_|refine aJ ?_|refine aU (ai ?_))
     refine sl ?_
   | exact aP
   | first|apply aQ|apply aD|apply aR|apply aE|apply aS|apply aF
   | refine aw ?_
   | first|refine ar rfl ?_|refine au rfl ?_|refine af rfl ?_ ?_|refine ay rfl (fun _=>?_) (fun _=>?_)|refine ax rfl (fun _=>?_) (fun _=>?_)
   | ((first|refine ae (fun _=>?_) (fun _=>?_)|refine ah (fun _=>?_) (fun _=>?_))<;>try refine sm ?_)
   | refine And.intro trivial ?_
   | refine And.intro (by omega) ?_
   | refine aA rfl (fun _=>?_) (fun _=>?_)
   | refine And.intro ?_ ?_
 all_goals (first|refine aa rfl (Kto h ?_)|refine ab (Kto h ?_)|refine aa (by simp only [AV.refs,AV.refsL, *];rfl) (Kto h ?_)|refine aX (aa rfl (Kto h ?_))|(trace_state;fail))
 all_goals (first|(simp [*];done)|(simp [*];omega)|(simp [*];intros;omega)|(simp_all [Hid,Hid];done)|(simp_all [Hid,Hid];omega))
def iC (gs:List Int) (t:Int):List Int:=gs.filter (fun f=>decide (f<t))++t::gs.filter (fun f => !decide (f<t))
theorem On {gs:List Int} {t:Int} {k:Nat} (h:Un gs t k):ins gs k t=iC gs t:=by
 obtain ⟨h1,h2,h3⟩:=h
 have a1:(gs.take k).filter (fun f=>decide (f<t))=gs.take k:=List.filter_eq_self.2 fun x hx=>by
   obtain ⟨j,hj,rfl⟩:=List.mem_iff_getElem.1 hx
   rw [List.length_take] at hj
   have:=h2 j (by omega)
   have hj2:j<gs.length:=by omega
   simp [hj2] at this;simpa using this
 have a2:(gs.drop k).filter (fun f=>decide (f<t))=[]:=List.filter_eq_nil_iff.2 fun x hx=>by
   obtain ⟨j,hj,rfl⟩:=List.mem_iff_getElem.1 hx
   rw [List.length_drop] at hj
   have:=h3 (k+j) (by omega) (by omega)
   have hj2:k+j<gs.length:=by omega
   simp [hj2] at this;simpa using this
 have b1:(gs.take k).filter (fun f => !decide (f<t))=[]:=List.filter_eq_nil_iff.2 fun x hx=>by
   have:=List.filter_eq_self.1 a1 x hx
   simp [this]
 have b2:(gs.drop k).filter (fun f => !decide (f<t))=gs.drop k:=List.filter_eq_self.2 fun x hx=>by
   have:=List.filter_eq_nil_iff.1 a2 x hx
   simpa using this
 have c1:gs.filter (fun f=>decide (f<t))=gs.take k:=by
   conv=>lhs;rw [← List.take_append_drop k gs]
   rw [List.filter_append,a1,a2];simp
 have c2:gs.filter (fun f => !decide (f<t))=gs.drop k:=by
   conv=>lhs;rw [← List.take_append_drop k gs]
   rw [List.filter_append,b1,b2];simp
 rw [iC,c1,c2,ins]
def J3 (pf pw pl pa:Int) (fs:List Int) (lk ch now:Int) (right:Bool):(List Int×Int×Int)×Int :=
 if (HV pf pw pl pa && fJ fs lk ch && cx now)=false then ((fs,lk,ch),1)
 else if 0≤lk∧(pl=0∨IntKind.i64.wrap (now - lk)<pl) then ((fs,lk,ch),2)
 else if right=true∧0<pa∧pa≤IntKind.i64.wrap (now - ch) then ((fs,lk,ch),3)
 else if right=true then (([],-1,ch),0)
 else
   let gs:=if lk<0 then fs.filter (fun f => !PG pw now f) else []
   let ks:=if 100<(iC gs now).length then (iC gs now).drop 1 else iC gs now
   if 0<pf∧pf≤ks.length then (([],now,ch),1) else ((ks,-1,ch),1)
def stA (s:List Int×Int×Int):AV:=.agg [.sl (bc s.1) s.1.length none,.int .i64 s.2.1,.int .i64 s.2.2]
def Dl (r:(List Int×Int×Int)×Int):AV:=.tup [stA r.1,.int .i64 r.2]
theorem NO {L X:List Blk} {m off:Nat} {ks:List Int} {lk ch code:Int} {c:List AV} {K:AV→List Blk→Prop} (hX:X[m]?=some (.cells c)) (hc:(c.drop off).take ks.length=bc ks) (h:K (Dl ((ks,lk,ch),code)) L) :
   Fin L (.tup [.agg [.lsl (L.length+m) off ks.length none 1,.int .i64 lk,.int .i64 ch],.int .i64 code]) (L++X) K:=by
 refine Mk (i:=L.length+m) (l:=c) (by rw [cj];exact hX) ?_
 simp only [AV.snap,AV.snapL,if_true,Nat.mul_one,hc]
 rw [Gy]
 exact aa (by simp [AV.refs,AV.refsL,dx]) h
theorem NN {L X:List Blk} {lk ch code:Int} {K:AV→List Blk→Prop} {cap:Option Nat} (h:K (Dl (([],lk,ch),code)) L) :
   Fin L (.tup [.agg [.sl [] 0 cap,.int .i64 lk,.int .i64 ch],.int .i64 code]) (L++X) K:=by
 refine aX (aa (by rfl) ?_)
 simpa [AV.frz,AV.frzL,Dl,stA] using h
theorem Oe {p:Int} {l:List Int} (h:eZ p l=true):(p::l).Pairwise (·≤·):=by
 induction l generalizing p with
 | nil=>simp
 | cons x l ih =>
   simp only [eZ,Bool.and_eq_true,decide_eq_true_eq] at h
   have h2:=ih h.2
   refine List.pairwise_cons.2 ⟨fun y hy=>?_,h2⟩
   rcases List.mem_cons.1 hy with rfl|hy
   · exact h.1.2
   · exact Int.le_trans h.1.2 ((List.pairwise_cons.1 h2).1 y hy)
theorem WU {l:List Int} (h:l.Pairwise (·≤·)):Up l:=fun i j hij hj=>by
 have:=List.pairwise_iff_getElem.1 h i j (by omega) hj hij
 simpa [hj,show i<l.length by omega] using this
theorem Q9 {fs:List Int} {lk ch:Int} (q:Int→Bool) (h:fJ fs lk ch=true):Up (fs.filter q):=by
 simp only [fJ,Bool.and_eq_true] at h
 exact WU ((List.pairwise_cons.1 (Oe h.1.1.1)).2.filter q)
theorem V0 {pf pw pl pa:Int} {cap:Option Nat} {lk ch now:Int} {right:Bool} (h:K (Dl (J3 pf pw pl pa [] lk ch now right)) L) :
   ao Tryz.prog 16 [.agg [.int .i64 pf,.int .i64 pw,.int .i64 pl,.int .i64 pa],.agg [.sl [] 0 cap,.int .i64 lk,.int .i64 ch],.int .i64 now,.bool right] L K:=by
 replace h:=hid h
 refine ag vc (by simp [gq]) ?_
 simp only [gq,aN]
 repeat' first
   | refine aT ?_
   | (first|refine aG (by kernel_rfl) ?_|refine ap (by kernel_rfl) ?_|refine aq ?_|refine aZ ?_|refine aO (fun _=>?_)|refine aj ?_|refine aK ?_|refine Ip ?_|refine bI ?_|refine eO ?_|refine Qx (fs:=[]) (by simp) ?_|refine NS ?_|refine J0 ?_|refine Tw fun rest=>?_|refine aL (Ip ⟨rfl,rfl⟩) (Ip ⟨rfl,rfl⟩) ?_|refine aL (bI ⟨rfl,rfl⟩) (bI ⟨rfl,rfl⟩) ?_|refine aL (eO ⟨rfl,rfl⟩) (eO ⟨rfl,rfl⟩) ?_|refine aL (NS ⟨rfl,rfl⟩) (NS ⟨rfl,rfl⟩) ?_|refine aL (J0 ⟨rfl,rfl⟩) (J0 ⟨rfl,rfl⟩) ?_|refine aB (Ip ⟨rfl,rfl⟩) ?_|refine aB (bI ⟨rfl,rfl⟩) ?_|refine aB (eO ⟨rfl,rfl⟩) ?_|refine aB (NS ⟨rfl,rfl⟩) ?_|refine aB (J0 ⟨rfl,rfl⟩) ?_)
     refine sm ?_
   | (first|refine aC (by kernel_rfl) ?_|refine aH ?_|refine aJ ?_|refine aU (ai ?_))
     refine sl ?_
   | exact aP
   | first|apply aQ|apply aD|apply aR|apply aE|apply aS|apply aF
   | refine aw ?_
   | first|refine ar rfl ?_|refine au rfl ?_|refine af rfl ?_ ?_|refine ay rfl (fun _=>?_) (fun _=>?_)|refine ax rfl (fun _=>?_) (fun _=>?_)
   | ((first|refine ae (fun _=>?_) (fun _=>?_)|refine ah (fun _=>?_) (fun _=>?_))<;>try refine sm ?_)
   | refine And.intro trivial ?_
   | refine And.intro (by omega) ?_
   | refine aA rfl (fun _=>?_) (fun _=>?_)
   | refine And.intro ?_ ?_
 all_goals first
   | (exfalso;omega)
   | refine NN ?_
   | refine NO (m:=5) (off:=0) (ks:=[now]) rfl rfl ?_
 all_goals
   refine (congrArg (fun r=>K (Dl r) L) ?_).mp h.out
   clear h
   simp_all [J3,iC]
 all_goals (repeat' split)<;>first|rfl|(exfalso;omega)|(intro hh;exfalso;omega)
theorem KO {pf pw pl pa:Int} {fs:List Int} {lk ch now:Int} {right:Bool} (h1:(HV pf pw pl pa && fJ fs lk ch && cx now)=true) (h2:¬(0≤lk∧(pl=0∨IntKind.i64.wrap (now - lk)<pl))) (hr:right=false) (gs ks:List Int)
   (hg:(if lk<0 then fs.filter (fun f => !PG pw now f) else [])=gs) (hk:(if 100<(iC gs now).length then (iC gs now).drop 1 else iC gs now)=ks) :
   J3 pf pw pl pa fs lk ch now right=if 0<pf∧pf≤ks.length then (([],now,ch),1) else ((ks,-1,ch),1):=by
 subst hg;subst hk
 simp only [J3,h1,if_neg h2,hr,Bool.true_eq_false,Bool.false_eq_true,if_false,false_and]
theorem QP {L X:List Blk} {m off n:Nat} {ks:List Int} {lk ch code:Int} {c:List AV} {K:AV→List Blk→Prop} (hn:n=ks.length) (hX:X[m]?=some (.cells c)) (hc:(c.drop off).take ks.length=bc ks) (h:K (Dl ((ks,lk,ch),code)) L) :
   Fin L (.tup [.agg [.lsl (L.length+m) off n none 1,.int .i64 lk,.int .i64 ch],.int .i64 code]) (L++X) K:=by
 subst hn;exact NO hX hc h
theorem vr {xs:List Int} {rest:List AV} {d:Nat} (h:d≤xs.length):((bc xs++rest).drop d).take (xs.drop d).length=bc (xs.drop d):=by
 rw [List.drop_append_of_le_length (by simpa [bc] using h)]
 have e:(bc xs).drop d=bc (xs.drop d):=by simp [bc,List.map_drop]
 rw [e]
 exact List.take_left' (by simp [bc])
theorem Nq {gs:List Int} {t:Int}:(iC gs t).length=gs.length+1:=by
 induction gs with
 | nil=>rfl
 | cons a l ih =>
   simp only [iC,List.length_append,List.length_cons,List.filter_cons] at ih ⊢
   by_cases h:a<t<;>simp [h]<;>omega
theorem VZ {pf pw pl pa:Int} {fs:List Int} {cap:Option Nat} {lk ch now:Int} {right:Bool} (hn:fs.length≤100000) (hne:fs.length≠0) (h:K (Dl (J3 pf pw pl pa fs lk ch now right)) L) :
   ao Tryz.prog 16 [.agg [.int .i64 pf,.int .i64 pw,.int .i64 pl,.int .i64 pa],.agg [.sl (bc fs) fs.length cap,.int .i64 lk,.int .i64 ch],.int .i64 now,.bool right] L K:=by
 replace h:=hid h
 refine ag vc (by simp [gq]) ?_
 simp only [gq,aN]
 have hLX:∀ (X:List Blk) (a b c d:Blk),(L++(a::b::c::d :: .cells (bc fs)::X))[L.length+4]?=some (.cells (bc fs)):=fun X a b c d=>by rw [cj];rfl
 repeat' first
   | refine aT ?_
   | (first|refine aG (by kernel_rfl) ?_|refine ap (by kernel_rfl) ?_|refine aq ?_|refine aZ ?_|refine aO (fun _=>?_)|refine aj ?_|refine aK ?_|refine Vr hne (by omega) ?_|refine bI ?_|refine eO ?_|refine SM (by omega) (fun X=>by simp [cj]) ?_|refine J0 ?_|refine Tw fun rest=>?_|refine aL (bI ⟨rfl,rfl⟩) (bI ⟨rfl,rfl⟩) ?_|refine aL (eO ⟨rfl,rfl⟩) (eO ⟨rfl,rfl⟩) ?_|refine aL (J0 ⟨rfl,rfl⟩) (J0 ⟨rfl,rfl⟩) ?_|refine aB (bI ⟨rfl,rfl⟩) ?_|refine aB (eO ⟨rfl,rfl⟩) ?_|refine aB (J0 ⟨rfl,rfl⟩) ?_)
     refine sm ?_
   | (first|refine aC (by kernel_rfl) ?_|refine aH ?_|refine aJ ?_|refine aU (ai ?_))
     refine sl ?_
   | exact aP
   | first|apply aQ|apply aD|apply aR|apply aE|apply aS|apply aF
   | refine aw ?_
   | first|refine ar rfl ?_|refine au rfl ?_|refine af rfl ?_ ?_|refine ay rfl (fun _=>?_) (fun _=>?_)|refine ax rfl (fun _=>?_) (fun _=>?_)
   | ((first|refine ae (fun _=>?_) (fun _=>?_)|refine ah (fun _=>?_) (fun _=>?_))<;>try refine sm ?_)
   | refine And.intro trivial ?_
   | refine And.intro (by omega) ?_
   | refine aA rfl (fun _=>?_) (fun _=>?_)
   | refine And.intro ?_ ?_
 all_goals first
   | (exfalso;omega)
   | (refine NN ?_;refine (congrArg (fun r=>K (Dl r) L) ?_).mp h.out)
   | (refine NO (m:=4) (off:=0) (ks:=fs) rfl (by rw [List.drop_zero];exact List.take_of_length_le (by simp [bc])) ?_;refine (congrArg (fun r=>K (Dl r) L) ?_).mp h.out)
   | (refine NO (m:=6) (off:=0) (ks:=[now]) rfl rfl ?_;refine (congrArg (fun r=>K (Dl r) L) ?_).mp h.out)
   | skip
 any_goals (clear hLX h;simp_all [J3,iC];done)
 any_goals (rw [KO (by clear hLX h;simp_all) (by omega) (by simp_all) [] [now] (if_neg (by assumption)) rfl];(repeat' split)<;>first|rfl|(exfalso;simp only [List.length_singleton,List.length_cons,List.length_nil] at *;omega))
 any_goals (clear hLX h;simp_all [J3,iC];(repeat' split)<;>first|rfl|(exfalso;omega)|(intro hh;exfalso;omega))
 have hst':fJ fs lk ch=true:=by clear hLX h;simp_all
 refine W3 (q:=PG pw now) (V1 L.length (L.length+2) pf pw pl pa now) (fun l=>?_) (by omega) (by rw [cj];rfl) (fun z=>?_)
 · rw [Gy];exact ⟨by simp,by rw [cj];rfl⟩
 rw [Gy]
 have hup:=hid (Q9 (fun x => !PG pw now x) hst')
 have hle:(fs.filter fun x => !PG pw now x).length≤fs.length:=List.length_filter_le _ _
 have hgs:∃ gs,gs=fs.filter fun x => !PG pw now x:=⟨_,rfl⟩
 obtain ⟨gs,hgs⟩:=hgs
 rw [← hgs] at hup hle ⊢
 replace hgs:=hid hgs
 have hton:((gs.length:Int)+1).toNat - 1=gs.length:=by omega
 simp only [Kon,List.set_cons_succ,List.set_cons_zero,push_cast,reduceIte,Nat.reduceEqDiff,Nat.reduceAdd,Nat.reduceMul,Nat.reduceSub,Nat.reduceLT,Nat.reduceLeDiff,Int.reduceLT,Int.reduceLE,Int.reduceAdd,Int.reduceSub,Int.reduceNeg,Int.reduceToNat,Int.reduceEq,reduceCtorEq, *]
 repeat' first
   | refine aT ?_
   | (first|refine aG (by kernel_rfl) ?_|refine ap (by kernel_rfl) ?_|refine aq ?_|refine aZ ?_|refine aO (fun _=>?_)|refine aj ?_|refine aK ?_|refine W5 (by omega) hup.out ((cj _ _ _).trans rfl) (fun k b hk=>?_)|refine Wg (by omega) hk.1 (by simp [AV.refs]) ((cj _ _ _).trans rfl) (fun rest hrest=>?_))
     refine sm ?_
   | (first|refine aC (by kernel_rfl) ?_|refine aH ?_|refine aJ ?_|refine aU (ai ?_))
     refine sl ?_
   | exact aP
   | first|apply aQ|apply aD|apply aR|apply aE|apply aS|apply aF
   | refine aw ?_
   | first|refine ar rfl ?_|refine au rfl ?_|refine af rfl ?_ ?_|refine ay rfl (fun _=>?_) (fun _=>?_)|refine ax rfl (fun _=>?_) (fun _=>?_)
   | ((first|refine ae (fun _=>?_) (fun _=>?_)|refine ah (fun _=>?_) (fun _=>?_))<;>try refine sm ?_)
   | refine And.intro trivial ?_
   | refine And.intro (by omega) ?_
   | refine aA rfl (fun _=>?_) (fun _=>?_)
   | refine And.intro ?_ ?_
 all_goals
   have hi:=On hk
   have hl:=@Nq gs now
   have hR:=KO (pf:=pf) (pw:=pw) (pl:=pl) (pa:=pa) (fs:=fs) (lk:=lk) (ch:=ch) (now:=now) (right:=right) (by clear hLX h;simp_all) (by omega) (by simpa using ‹¬right=true›) gs _ (by rw [if_pos (by assumption)];exact hgs.out.symm) rfl
   rw [hi]
 all_goals first
   | rw [if_pos (show 100<(iC gs now).length by omega)] at hR
   | rw [if_neg (show ¬ 100<(iC gs now).length by omega)] at hR
 all_goals first
   | rw [if_pos (by simp only [List.length_drop,hl];omega)] at hR
   | rw [if_neg (by simp only [List.length_drop,hl];omega)] at hR
 all_goals first
   | (refine NN ?_;exact (congrArg (fun r=>K (Dl r) L) hR).mp h.out)
   | (refine QP (m:=6) (ks:=(iC gs now).drop 1) (by simp only [List.length_drop,hl];omega) rfl (vr (by omega)) ?_;exact (congrArg (fun r=>K (Dl r) L) hR).mp h.out)
   | (refine QP (m:=6) (ks:=iC gs now) (by simp only [hl]) rfl (vr (d:=0) (by omega)) ?_;exact (congrArg (fun r=>K (Dl r) L) hR).mp h.out)
theorem Jm {pf pw pl pa:Int} {fs:List Int} {cap:Option Nat} {lk ch now:Int} {right:Bool} (hn:fs.length≤100000) (h:K (Dl (J3 pf pw pl pa fs lk ch now right)) L) :
   ao Tryz.prog 16 [.agg [.int .i64 pf,.int .i64 pw,.int .i64 pl,.int .i64 pa],.agg [.sl (bc fs) fs.length cap,.int .i64 lk,.int .i64 ch],.int .i64 now,.bool right] L K:=by
 by_cases hne:fs.length=0
 · have hfs:fs=[]:=List.eq_nil_of_length_eq_zero hne
   subst hfs
   exact V0 h
 · exact VZ hn hne h
theorem QU (h:K (.bool true) L) :
   ao Tryz.prog 6 [] L K:=by
 have e1:J3 2 10 5 0 [] (-1) 0 1 false=(([1],-1,0),1):=by decide
 have e2:J3 2 10 5 0 [1] (-1) 0 3 false=(([],3,0),1):=by decide
 have e3:J3 2 10 5 0 [] 3 0 7 true=(([],3,0),2):=by decide
 have e4:J3 2 10 5 0 [] 3 0 8 true=(([],-1,0),0):=by decide
 have e5:HV 2 10 5 0=true:=by decide
 refine ag Je (by simp [lp]) ?_
 simp only [lp,aN]
 repeat' first
   | refine aT ?_
   | (first|refine aG (by kernel_rfl) ?_|refine ap (by kernel_rfl) ?_|refine aq ?_|refine aZ ?_|refine aO (fun _=>?_)|refine aj ?_|refine aK ?_|refine OD ?_|refine eO ?_|refine Jm (fs:=[]) (by simp) ?_|refine Jm (fs:=[1]) (by simp) ?_|refine aL (OD ⟨rfl,rfl⟩) (OD ⟨rfl,rfl⟩) ?_|refine aL (eO ⟨rfl,rfl⟩) (eO ⟨rfl,rfl⟩) ?_|refine aL (Jm (fs:=[]) (by simp) ⟨rfl,rfl⟩) (Jm (fs:=[]) (by simp) ⟨rfl,rfl⟩) ?_|refine aL (Jm (fs:=[1]) (by simp) ⟨rfl,rfl⟩) (Jm (fs:=[1]) (by simp) ⟨rfl,rfl⟩) ?_|refine aB (OD ⟨rfl,rfl⟩) ?_|refine aB (eO ⟨rfl,rfl⟩) ?_|refine aB (Jm (fs:=[]) (by simp) ⟨rfl,rfl⟩) ?_|refine aB (Jm (fs:=[1]) (by simp) ⟨rfl,rfl⟩) ?_)
     simp (config:={ maxSteps:=2000000 }) only [Dl,stA,bc,List.map_cons,List.map_nil,List.length_cons,List.length_nil,Kon,push_cast,reduceIte,Nat.reduceEqDiff,Nat.reduceAdd,Nat.reduceMul,Nat.reduceSub,Nat.reduceLT,Nat.reduceLeDiff,Int.reduceLT,Int.reduceLE,Int.reduceAdd,Int.reduceSub,Int.reduceNeg,Int.reduceToNat,Int.reduceEq,reduceCtorEq, *]
   | (first|refine aC (by kernel_rfl) ?_|refine aH ?_|refine aJ ?_|refine aU (ai ?_))
     refine sl ?_
   | exact aP
   | first|apply aQ|apply aD|apply aR|apply aE|apply aS|apply aF
   | refine aw ?_
   | first|refine ar rfl ?_|refine au rfl ?_|refine af rfl ?_ ?_|refine ay rfl (fun _=>?_) (fun _=>?_)|refine ax rfl (fun _=>?_) (fun _=>?_)
   | ((first|refine ae (fun _=>?_) (fun _=>?_)|refine ah (fun _=>?_) (fun _=>?_))<;>try simp (config:={ maxSteps:=2000000 }) only [Dl,stA,bc,List.map_cons,List.map_nil,List.length_cons,List.length_nil,Kon,push_cast,reduceIte,Nat.reduceEqDiff,Nat.reduceAdd,Nat.reduceMul,Nat.reduceSub,Nat.reduceLT,Nat.reduceLeDiff,Int.reduceLT,Int.reduceLE,Int.reduceAdd,Int.reduceSub,Int.reduceNeg,Int.reduceToNat,Int.reduceEq,reduceCtorEq, *])
   | refine And.intro trivial ?_
   | refine And.intro (by omega) ?_
   | refine aA rfl (fun _=>?_) (fun _=>?_)
   | refine And.intro ?_ ?_
 exact aa rfl h
end Go.Proofs.YtolfghcbbpcciaaGreatDoor.Av
