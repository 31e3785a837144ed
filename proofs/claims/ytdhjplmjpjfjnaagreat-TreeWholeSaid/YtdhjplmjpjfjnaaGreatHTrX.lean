/- Joined texts of the walk, made small by a program. -/
import Derived.Test.YtdhjplmjpjfjnaaGreatHTrW
import Derived.Test.YtdhjplmjpjfjnaaGreatHY6
import Derived.Test.YtdhjplmjpjfjnaaGreatHY5
set_option linter.unusedSimpArgs false
set_option linter.unusedVariables false
namespace Go.Proofs.YtdhjplmjpjfjnaaGreat.Av
open Go
set_option maxHeartbeats 8000000
set_option maxRecDepth 100000
theorem IC {nb bn:Int→Nat}:∀ {l:List az} {x:az},(l.map fun x=>bn x.id).Nodup→x∈l→(l.map (em nb bn)).find? (fun e=>Nat.beq e.2.2 (bn x.id))=some (em nb bn x)
 | [],x,_,h=>by cases h
 | y::l,x,hn,h=>by
   rw [List.map_cons,List.nodup_cons] at hn
   rcases List.mem_cons.1 h with h|h
   · subst h;simp [em]
   · have hne:bn y.id≠bn x.id:=fun e=>hn.1 (List.mem_map.2 ⟨x,h,e.symm⟩)
     have hbq:Nat.beq (bn y.id) (bn x.id)=false:=by
       cases hh:Nat.beq (bn y.id) (bn x.id) with
       | false=>rfl
       | true=>exact absurd (Nat.eq_of_beq_eq_true hh) hne
     simp only [List.map_cons,List.find?_cons]
     rw [show Nat.beq (em nb bn y).2.2 (bn x.id)=false from hbq]
     exact IC hn.2 h
theorem OX {nb bn:Int→Nat} {l:List az} {x:az} {ck:Nat} {seen:List Nat} (hn:(l.map fun x=>bn x.id).Nodup) (hx:x∈l):mat (l.map (em nb bn)) ck (seen++[bn x.id]) ck=some (em nb bn x):=by
 simp only [mat,List.getLast?_append,List.getLast?_singleton,Option.some_or,if_true]
 exact IC hn hx
theorem KA {β:Type}:∀ (ps l:List β),ps.Nodup→(∀ x∈ps,x∈l)→ps.length≤l.length
 | [],l,_,_=>Nat.zero_le _
 | x::ps,l,hn,hs=>by
   obtain ⟨hx,hn'⟩:=List.nodup_cons.1 hn
   obtain ⟨a,b,rfl⟩:=List.append_of_mem (hs x (by simp))
   have:=KA ps (a++b) hn' fun y hy=>by
     have:=hs y (by simp [hy])
     rcases List.mem_append.1 this with h|h
     · exact List.mem_append_left _ h
     · rcases List.mem_cons.1 h with h|h
       · rw [h] at hy;exact absurd hy hx
       · exact List.mem_append_right _ h
   simp only [List.length_append,List.length_cons] at this ⊢
   omega
structure Em (bn:Int→Nat) (l:List az) (ps:List az) (seen:List Nat):Prop where
 sub:∀ x∈ps,x∈l
 nd:ps.Nodup
 eq:seen=ps.map fun x=>bn x.id
theorem Em.nil {bn:Int→Nat} {l:List az}:Em bn l [] []:=⟨fun _ h=>absurd h List.not_mem_nil,List.nodup_nil,rfl⟩
theorem Em.next {bn:Int→Nat} {l:List az} {ps:List az} {seen:List Nat} (h:Em bn l ps seen) {x:az} (hx:x∈l) (hs:seen.contains (bn x.id)=false):Em bn l (ps++[x]) (seen++[bn x.id]):=by
 refine ⟨fun y hy=>?_,?_,by rw [h.eq];simp⟩
 · rcases List.mem_append.1 hy with hy|hy
   · exact h.sub y hy
   · rw [List.mem_singleton.1 hy];exact hx
 · rw [List.nodup_append]
   refine ⟨h.nd,by simp,fun a ha b hb e=>?_⟩
   rw [List.mem_singleton.1 hb] at e
   have:bn x.id∈seen:=by rw [h.eq,← e];exact List.mem_map.2 ⟨a,ha,rfl⟩
   rw [List.contains_eq_mem] at hs
   simp [this] at hs
theorem Em.all {bn:Int→Nat} {l:List az} {ps:List az} {seen:List Nat} (h:Em bn l ps seen) (hl:l.Nodup) (hb:(l.map fun x=>bn x.id).Nodup) (ha:∀ x∈l,seen.contains (bn x.id)=true):ps.Perm l:=by
 refine (List.perm_ext_iff_of_nodup h.nd hl).2 fun x=>⟨h.sub x,fun hx=>?_⟩
 have:=ha x hx
 rw [List.contains_eq_mem,decide_eq_true_eq,h.eq] at this
 obtain ⟨y,hy,e⟩:=List.mem_map.1 this
 rw [← dR hb (h.sub y hy) hx e];exact hy
theorem Em.len {bn:Int→Nat} {l:List az} {ps:List az} {seen:List Nat} (h:Em bn l ps seen):ps.length≤l.length:=KA ps l h.nd h.sub
theorem OV {bn:Int→Nat} {l:List az} {seen:List Nat} {x:az} (hx:x∈l) (hs:seen.contains (bn x.id)=false):(l.filter fun r => !(seen++[bn x.id]).contains (bn r.id)).length<(l.filter fun r => !seen.contains (bn r.id)).length:=by
 have e:(l.filter fun r => !(seen++[bn x.id]).contains (bn r.id))=(l.filter fun r => !seen.contains (bn r.id)).filter (fun r=>decide (bn r.id≠bn x.id)):=by
   rw [List.filter_filter]
   refine List.filter_congr fun r _=>?_
   by_cases h:bn r.id=bn x.id<;>simp [h]
 rw [e]
 refine List.length_filter_lt_length_iff_exists.2 ⟨x,List.mem_filter.2 ⟨hx,by rw [hs];rfl⟩,by simp⟩
theorem TOk.nodup {suf:List Rdn} {last:Int} {l:List az} (h:TOk suf last l):l.Nodup:=by
 have hn:=h.inv.ids
 unfold cE at hn
 rw [List.map_map] at hn
 exact p0 hn
theorem Gr (q:Nat→Bool):∀ l:List az,AV.refsL q (jr l)=true
 | []=>rfl
 | x::l=>by
   show (AV.refs q _ && AV.refsL q _)=true
   rw [Gr q l];rfl
theorem C9 {suf:List Rdn} {last:Int} {l:List az} (ht:TOk suf last l) (hln:l.length≤1100000) {L:List Blk} {iv mn mi:Nat} {nb bn:Int→Nat} {ck ci:Nat} {rs:List TKy} (hc:aR L iv mn mi nb bn ck ci rs suf last l) {id s:Int} {K:AV→List Blk→Prop} (h:K (.sl ((scT l id s).map (AV.int .i64)) (scT l id s).length none) L) :
   ab Tryz.prog 12 [.ptr iv 0,.int .i64 id,.int .i64 s] L K:=by
 have hv:=hc.v
 have hn:=hc.n
 have hivl:iv<L.length:=(List.getElem?_eq_some_iff.1 hv).1
 have hmnl:mn<L.length:=(List.getElem?_eq_some_iff.1 hn).1
 have av:∀ X:List Blk,(L++X)[iv]?=some (.cells [dnA suf,.lmap mn,.lmap mi,.int .i64 last]):=fun X=>by rw [List.getElem?_append_left hivl];exact hv
 have an:∀ X:List Blk,(L++X)[mn]?=some (.map (l.map (em nb bn)) ck):=fun X=>by rw [List.getElem?_append_left hmnl];exact hn
 have hkf:aT .int (.int .i64 id)=true:=rfl
 unfold scT at h
 rcases hc.node id with ⟨e1,e2⟩|⟨a,j,e1,ha,hai,e2,e3⟩
 · rw [e1] at h
   replace h:=hid h
   clear hc e1 hv hn
   refine aa dL (by simp [bp]) ?_
   simp only [bp,am]
   refine wk ?_
   refine cz ?_
   rw [show (AV.sl [] 0 (some 0)).frz=.sl (([]:List Int).map (AV.int .i64)) ([]:List Int).length none from rfl]
   exact ac rfl h.out
 · rw [e1] at h
   simp only at h
   have hnl:nb id<L.length:=(List.getElem?_eq_some_iff.1 e3).1
   unfold gE at e3
   have ad:∀ X:List Blk,(L++X)[nb id]?=some (.cells [dnA a.nm,.sl (aB (pth a)) a.nm.length none,atR a.av,.int .i64 (aO (cE l) (NK a.nm):Nat)]):=fun X=>by rw [List.getElem?_append_left hnl];exact e3
   by_cases hs:s<0∨2<s
   · rw [if_pos hs] at h
     replace h:=hid h
     clear hc e1 hv hn e3
     by_cases c1:s<0
     · refine aa dL (by simp [bp]) ?_
       simp only [bp,am]
       refine wk ?_
       refine cz ?_
       rw [show (AV.sl [] 0 (some 0)).frz=.sl (([]:List Int).map (AV.int .i64)) ([]:List Int).length none from rfl]
       exact ac rfl h.out
     · have c2:2<s:=by omega
       have c3:s > 2:=c2
       refine aa dL (by simp [bp]) ?_
       simp only [bp,am]
       refine wk ?_
       refine cz ?_
       rw [show (AV.sl [] 0 (some 0)).frz=.sl (([]:List Int).map (AV.int .i64)) ([]:List Int).length none from rfl]
       exact ac rfl h.out
   · rw [if_neg hs] at h
     have c1:¬ s<0:=by omega
     have c2:¬ 2<s:=by omega
     have c3:¬ s > 2:=c2
     replace h:=hid h
     replace hc:=hid hc
     replace ht:=hid ht
     clear hv hn e3 hs
     refine aa dL (by simp [bp]) ?_
     simp only [bp,am]
     refine wk ?_
     refine ax (fun n T' L'=>∃ (seen:List Nat) (ps:List az) (v:AV) (Z:List Blk),n=(l.filter fun r => !seen.contains (bn r.id)).length∧Hid (Em bn l ps seen)∧Hid ((ps.filter (eQ a s)=[]∧v=.sl [] 0 (some 0))∨∃ m,ps.filter (eQ a s)≠[]∧v=.lsl (L.length+2+m) 0 (ps.filter (eQ a s)).length none 1∧Z[m]?=some (.cells (jr (ps.filter (eQ a s)))))∧T'=[(44,.ptr (L.length+1) 0),(8,v),(7,.sl (aB (pth a)) a.nm.length none),(3,.ptr L.length 0),(0,.ptr iv 0),(1,.int .i64 id),(2,.int .i64 s)]∧L'=L++([.cells [.ptr iv 0],.miter (some mn) ck seen ck]++Z)) (CutS (b:=by simp)) ⟨[],[],_,[],rfl,hid Em.nil,hid (.inl ⟨rfl,rfl⟩),rfl,rfl⟩ ?_
     rintro _ _ _ ⟨seen,ps,v,Z,rfl,hcm,hv,rfl,rfl⟩
     have i1:∀ (a b:Blk) (Z:List Blk),(L++([a,b]++Z))[L.length+1]?=some b:=fun a b Z=>by rw [List.getElem?_append_right (by omega)];simp
     have i3:∀ (a b c:Blk) (Z:List Blk),(L++([a,b]++Z)).set (L.length+1) c=L++([a,c]++Z):=fun a b c Z=>by rw [List.set_append_right _ _ (by omega),show L.length+1 - L.length=1 by omega];rfl
     refine dT ?_
     refine MO (i:=L.length+1) (j:=mn) (es:=l.map (em nb bn)) (by kernel_rfl) rfl (i1 _ _ _) (an _) (fun e he=>?_) (Nat.le_refl _) (fun hall=>?_) (fun e he hs=>?_)
     · obtain ⟨p,hp,rfl⟩:=List.mem_map.1 he
       exact hc.out.blt p hp
     · have hperm:=hcm.out.all ht.out.nodup hc.out.bnd fun x hx=>hall (em nb bn x) (List.mem_map.2 ⟨x,hx,rfl⟩)
       have hsrt:=ht.out.srt a s (hperm.filter (eQ a s))
       have hml:=Nat.le_trans (List.length_filter_le (eQ a s) ps) hcm.out.len
       have hmm:∀ x∈ps.filter (eQ a s),x∈l:=fun x hx=>hcm.out.sub x (List.mem_filter.1 hx).1
       obtain ⟨m0,hm0⟩:∃ m0,ps.filter (eQ a s)=m0:=⟨_,rfl⟩
       have hv':=hv.out
       rw [hm0] at hv' hsrt hml hmm
       rw [← hsrt] at h
       replace hmm:=hid hmm
       replace hml:=hid hml
       clear hall hperm hsrt hcm hv hm0
       refine sk ?_
       rcases hv' with ⟨rfl,rfl⟩|⟨m,hne,rfl,hZ⟩
       · have kk1:Hid (∀ {cap:Option Nat} {fv:AV} {L:List Blk} {K:AV→List Blk→Prop},K (.tup []) L→ab Tryz.prog 40 [.sl [] 0 cap,fv] L K):=@hid _ (by intro cap fv L K q;exact Kg q)
         clear hmm hml
         refine wk ?_
         refine cz ?_
         have h':=h.out
         rw [List.mergeSort_nil] at h'
         exact ac rfl h'
       · have hid':∀ (b c:Blk),(L++b::c::Z)[L.length+2+m]?=some (.cells (jr m0)):=fun b c=>by
           rw [List.getElem?_append_right (by omega),show L.length+2+m - L.length=m+1+1 by omega]
           simpa using hZ
         have hst:∀ (b c d:Blk),(L++b::c::Z).set (L.length+2+m) d=L++b::c::Z.set m d:=fun b c d=>by
           rw [List.set_append_right _ _ (by omega),show L.length+2+m - L.length=m+1+1 by omega];rfl
         have hm:m<Z.length:=(List.getElem?_eq_some_iff.1 hZ).1
         obtain ⟨sr,hsr⟩:∃ sr,m0.mergeSort leE=sr:=⟨_,rfl⟩
         have hsl:sr.length=m0.length:=by rw [← hsr,List.length_mergeSort]
         have kk1:Hid (∀ {K:AV→List Blk→Prop},K (.tup []) (L ++ .cells [.ptr iv 0] :: .miter (some mn) ck seen ck::Z.set m (.cells (jr sr)))→ab Tryz.prog 40 [.lsl (L.length+2+m) 0 m0.length none 1,.func 41 [.ptr L.length 0]] (L ++ .cells [.ptr iv 0] :: .miter (some mn) ck seen ck::Z) K):=@hid _ (by
           intro K q
           refine LK ht.out hmm.out hne (Nat.le_trans hml.out hln) (hc.out.app _) (hid' _ _) (by rw [List.getElem?_append_right (Nat.le_refl _)];simp) ?_
           rw [hst,hsr];exact q)
         rw [hsr] at h
         have e4:(sr.map fun x=>x.id).map (AV.int .i64)=jr sr:=by rw [List.map_map];rfl
         rw [e4,List.length_map] at h
         clear hmm hml hne hsr hst hid' hZ
         refine wk ?_
         refine vz (i:=L.length+2+m) (l:=jr sr) ?_ ?_
         · rw [List.getElem?_append_right (by omega),show L.length+2+m - L.length=m+1+1 by omega]
           simp [hm]
         rw [show (AV.lsl (L.length+2+m) 0 m0.length none 1).snap (L.length+2+m) (jr sr)=.sl (jr sr) sr.length none from by simp [AV.snap,← hsl,List.take_of_length_le],List.set_append_right _ _ (by omega)]
         refine ac ?_ h.out
         simp only [AV.refs]
         exact Gr _ sr
     · obtain ⟨x,hx,rfl⟩:=List.mem_map.1 he
       clear he
       have hs':seen.contains (bn x.id)=false:=hs
       have hlt:=hid (OV hx hs')
       have hcm':=hid (hcm.out.next hx hs')
       have hmat:=OX (nb:=nb) (ck:=ck) (seen:=seen) hc.out.bnd hx
       have hxn:=hc.out.nd x hx
       have hxl:nb x.id<L.length:=(List.getElem?_eq_some_iff.1 hxn).1
       unfold gE at hxn
       have axd:∀ X:List Blk,(L++X)[nb x.id]?=some (.cells [dnA x.nm,.sl (aB (pth x)) x.nm.length none,atR x.av,.int .i64 (aO (cE l) (NK x.nm):Nat)]):=fun X=>by rw [List.getElem?_append_left hxl];exact hxn
       have hin:=KO ht.out ha hx s
       have hpl:(pth x).length=x.nm.length:=by simp [pth,aQ]
       have hpa:(pth a).length=a.nm.length:=by simp [pth,aQ]
       have hfil:(ps++[x]).filter (eQ a s)=ps.filter (eQ a s)++(if eQ a s x=true then [x] else []):=by
         rw [List.filter_append];congr 1
         by_cases c:eQ a s x=true<;>simp [c]
       have hx32:=(ht.out.ok x hx).len
       have ha32:=(ht.out.ok a ha).len
       have hml:=Nat.le_trans (List.length_filter_le (eQ a s) ps) hcm.out.len
       rw [hpl,hpa] at hin
       simp only [em] at *
       clear hs hs' hcm
       simp only [i3]
       have w1:IntKind.i64.wrap ((x.nm.length:Int) - (a.nm.length:Int))=(x.nm.length:Int) - (a.nm.length:Int):=ah (by omega) (by omega)
       have kE:Hid (∀ {ca cb:Option Nat} {L:List Blk} {K:AV→List Blk→Prop},a.nm.length≤x.nm.length→K (.bool (decide (List.take a.nm.length (pth x)=pth a))) L→ab Tryz.prog 39 [.sl (List.take a.nm.length (aB (pth x))) a.nm.length ca,.sl (aB (pth a)) a.nm.length cb] L K):=@hid _ (by
         intro ca cb L K hle q
         rw [← List.map_take]
         exact On (a:=(pth x).take a.nm.length) (b:=pth a) (by rw [List.length_take,hpl];omega) hpa.symm (by rw [List.length_take,hpl];omega) q)
       obtain ⟨u,hu⟩:∃ u,decide (List.take a.nm.length (pth x)=pth a)=u:=⟨_,rfl⟩
       rw [hu] at kE hin
       obtain ⟨xi,hxi⟩:∃ i,x.id=i:=⟨_,rfl⟩
       have hfT:eQ a s x=true→(ps++[x]).filter (eQ a s)=ps.filter (eQ a s)++[x]:=fun e=>by rw [hfil,if_pos e]
       have hfF:eQ a s x=false→(ps++[x]).filter (eQ a s)=ps.filter (eQ a s):=fun e=>by rw [hfil,if_neg (by rw [e];decide)];simp
       obtain ⟨m0,hm0⟩:∃ m0,ps.filter (eQ a s)=m0:=⟨_,rfl⟩
       rw [hm0] at hv hfT hfF hml
       obtain ⟨nx,hnx⟩:∃ n,x.nm.length=n:=⟨_,rfl⟩
       obtain ⟨na,hna⟩:∃ n,a.nm.length=n:=⟨_,rfl⟩
       rw [hxi] at hmat axd
       rw [hnx,hna] at kE hin w1
       rw [hnx] at axd hx32
       rw [hna] at ad ha32
       obtain ⟨xp,hxp⟩:∃ p,aB (pth x)=p:=⟨_,rfl⟩
       rw [hxp] at kE axd
       have hxpl:xp.length=nx:=by rw [← hxp,List.length_map,hpl,hnx]
       have out:eQ a s x=false→Hid ((m0=[]∧v=.sl [] 0 (some 0))∨∃ m,m0≠[]∧v=.lsl (L.length+2+m) 0 m0.length none 1∧Z[m]?=some (.cells (jr m0)))→Hid (((ps++[x]).filter (eQ a s)=[]∧v=.sl [] 0 (some 0))∨∃ m,(ps++[x]).filter (eQ a s)≠[]∧v=.lsl (L.length+2+m) 0 ((ps++[x]).filter (eQ a s)).length none 1∧Z[m]?=some (.cells (jr ((ps++[x]).filter (eQ a s))))):=fun e hv=>by rw [hfF e];exact hv
       rw [hna,hxi]
       rw [hxi] at hlt hcm'
       have hinF:=fun (e:eQ a s x=false)=>out e hv
       clear out
       replace hinF:=hid hinF
       replace hin:=hid hin
       have hids:=hid (show jr [x]=[.int .i64 xi] from by rw [← hxi];rfl)
       clear hfil hxn hx hfF hpl hpa hxi hnx hna hu hxp hm0 ha hai e1
       by_cases d1:na≤nx
       rotate_left
       · have g1:¬ (0:Int)≤(nx:Int) - (na:Int):=by omega
         have g2:¬ (nx:Int) - (na:Int) ≥ 0:=g1
         have out:=hinF.out (by rw [hin.out,decide_eq_false g1];rfl)
         clear kE hin hinF hv hfT
         refine sk ?_
         refine wk ?_
         refine ay _ _ _ hlt.out (CutS (b:=by simp)) ⟨_,ps++[x],_,_,rfl,hid hcm'.out,out.out,rfl,rfl⟩
       have kk1:=@hid _ (fun {ca cb:Option Nat} {L:List Blk} {K:AV→List Blk→Prop}=>kE.out (ca:=ca) (cb:=cb) (L:=L) (K:=K) d1)
       have g1:(0:Int)≤(nx:Int) - (na:Int):=by omega
       have g2:(nx:Int) - (na:Int) ≥ 0:=g1
       have g3:(na:Int)≤(nx:Int):=by omega
       have hin:=hin.out
       rw [decide_eq_true g1,Bool.true_and] at hin
       replace hin:=hid hin
       clear kE
       cases u with
       | false =>
         have out:=hinF.out (by rw [hin.out];rfl)
         clear hin hinF hv hfT
         refine sk ?_
         refine wk ?_
         refine ay _ _ _ hlt.out (CutS (b:=by simp)) ⟨_,ps++[x],_,_,rfl,hid hcm'.out,out.out,rfl,rfl⟩
       | true =>
         have hin:=hin.out
         rw [Bool.true_and] at hin
         replace hin:=hid hin
         by_cases d2:s=2
         · subst d2
           have hfl:=hid (hfT (by rw [hin.out];rfl))
           clear hin hinF hfT
           rcases hv.out with ⟨hm0,rfl⟩|⟨m,hne,rfl,hZ⟩
           · subst hm0
             clear hv
             refine sk ?_
             refine wk ?_
             refine ay _ _ _ hlt.out (CutS (b:=by simp)) ⟨_,ps++[x],_,Z++[.cells [.int .i64 xi]],rfl,hid hcm'.out,hid (.inr ⟨Z.length,by rw [hfl.out];simp,?_,by rw [hfl.out,List.nil_append,hids.out];simp⟩),rfl,by simp⟩
             rw [hfl.out,show L.length+(Z.length+1+1)=L.length+2+Z.length by omega];rfl
           · have hm:m<Z.length:=(List.getElem?_eq_some_iff.1 hZ).1
             have hLZ:∀ (a b:Blk),(L++a::b::Z)[L.length+2+m]?=some (.cells (jr m0)):=fun a b=>by
               rw [List.getElem?_append_right (by omega),show L.length+2+m - L.length=m+1+1 by omega]
               simpa using hZ
             have hds:∀ (a b:Blk),(L++a::b::Z).set (L.length+2+m) .dead=L++a::b::Z.set m .dead:=fun a b=>by
               rw [List.set_append_right _ _ (by omega),show L.length+2+m - L.length=m+1+1 by omega];rfl
             obtain ⟨C,hC⟩:∃ C,jr m0=C:=⟨_,rfl⟩
             obtain ⟨d,hd⟩:∃ d,m0.length=d:=⟨_,rfl⟩
             have hCl:C.length=d:=by rw [← hC,List.length_map,hd]
             have hCt:List.take d C=C:=List.take_of_length_le (by omega)
             have hd2:d≤1100000:=by omega
             rw [hC] at hLZ
             rw [hd]
             have hC2:=hid hC
             have hd3:=hid hd
             clear hv hZ hC hd hml
             refine sk ?_
             refine wk ?_
             refine ay _ _ _ hlt.out (CutS (b:=by simp)) ⟨_,ps++[x],_,Z.set m .dead++[.cells (C++[.int .i64 xi])],rfl,hid hcm'.out,hid (.inr ⟨Z.length,by rw [hfl.out];simp,?_,by rw [hfl.out,show jr (m0++[x])=jr m0++jr [x] from List.map_append,hC2.out,hids.out,List.getElem?_append_right (by simp)];simp⟩),rfl,by simp⟩
             rw [hfl.out,show L.length+(Z.length+1+1)=L.length+2+Z.length by omega,List.length_append,hd3.out];rfl
         · by_cases d3:(nx:Int) - (na:Int)=s
           · have hfl:=hid (hfT (by rw [hin.out];rw [decide_eq_true d3,Bool.or_true]))
             subst d3
             clear hin hinF hfT
             rcases hv.out with ⟨hm0,rfl⟩|⟨m,hne,rfl,hZ⟩
             · subst hm0
               clear hv
               refine sk ?_
               refine wk ?_
               refine ay _ _ _ hlt.out (CutS (b:=by simp)) ⟨_,ps++[x],_,Z++[.cells [.int .i64 xi]],rfl,hid hcm'.out,hid (.inr ⟨Z.length,by rw [hfl.out];simp,?_,by rw [hfl.out,List.nil_append,hids.out];simp⟩),rfl,by simp⟩
               rw [hfl.out,show L.length+(Z.length+1+1)=L.length+2+Z.length by omega];rfl
             · have hm:m<Z.length:=(List.getElem?_eq_some_iff.1 hZ).1
               have hLZ:∀ (a b:Blk),(L++a::b::Z)[L.length+2+m]?=some (.cells (jr m0)):=fun a b=>by
                 rw [List.getElem?_append_right (by omega),show L.length+2+m - L.length=m+1+1 by omega]
                 simpa using hZ
               have hds:∀ (a b:Blk),(L++a::b::Z).set (L.length+2+m) .dead=L++a::b::Z.set m .dead:=fun a b=>by
                 rw [List.set_append_right _ _ (by omega),show L.length+2+m - L.length=m+1+1 by omega];rfl
               obtain ⟨C,hC⟩:∃ C,jr m0=C:=⟨_,rfl⟩
               obtain ⟨d,hd⟩:∃ d,m0.length=d:=⟨_,rfl⟩
               have hCl:C.length=d:=by rw [← hC,List.length_map,hd]
               have hCt:List.take d C=C:=List.take_of_length_le (by omega)
               have hd2:d≤1100000:=by omega
               rw [hC] at hLZ
               rw [hd]
               have hC2:=hid hC
               have hd3:=hid hd
               clear hv hZ hC hd hml
               refine sk ?_
               refine wk ?_
               refine ay _ _ _ hlt.out (CutS (b:=by simp)) ⟨_,ps++[x],_,Z.set m .dead++[.cells (C++[.int .i64 xi])],rfl,hid hcm'.out,hid (.inr ⟨Z.length,by rw [hfl.out];simp,?_,by rw [hfl.out,show jr (m0++[x])=jr m0++jr [x] from List.map_append,hC2.out,hids.out,List.getElem?_append_right (by simp)];simp⟩),rfl,by simp⟩
               rw [hfl.out,show L.length+(Z.length+1+1)=L.length+2+Z.length by omega,List.length_append,hd3.out];rfl
           · have out:=hinF.out (by rw [hin.out,decide_eq_false d2,decide_eq_false d3];rfl)
             clear hin hinF hv hfT
             refine sk ?_
             refine wk ?_
             refine ay _ _ _ hlt.out (CutS (b:=by simp)) ⟨_,ps++[x],_,_,rfl,hid hcm'.out,out.out,rfl,rfl⟩
end Go.Proofs.YtdhjplmjpjfjnaaGreat.Av
