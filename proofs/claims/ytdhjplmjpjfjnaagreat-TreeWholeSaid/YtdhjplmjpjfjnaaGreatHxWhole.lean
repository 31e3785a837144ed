/- Joined texts of the walk, made small by a program. -/
import Derived.Test.YtdhjplmjpjfjnaaGreatHP4
import Derived.Test.YtdhjplmjpjfjnaaGreatRows
import Derived.KernelRfl
import Derived.Test.YtdhjplmjpjfjnaaGreatHCodeT1
import Derived.Test.YtdhjplmjpjfjnaaGreatHY2
import Derived.Test.YtdhjplmjpjfjnaaGreatHCodeT3
import Derived.Test.YtdhjplmjpjfjnaaGreatHYA
import Derived.Test.YtdhjplmjpjfjnaaGreatHTrZi
import Derived.Test.YtdhjplmjpjfjnaaGreatHTrX
set_option linter.unusedSimpArgs false
set_option linter.unusedVariables false
set_option maxRecDepth 100000
namespace Go.Proofs.YtdhjplmjpjfjnaaGreat.Av
open Go
def QV:LSO:=[Ac 2 0]
def QU:LSO:=[Aa 3 0,AN 4 3]
def QT:LSO:=[Ac 2 0]
def QS:LSO:=[Aa 5 0,Ag 6 5,Ad 7 1 6,Ab 8 1 7,o1 9 (.mlen (tm 8)),Aa 2 9]
def adf:bh:=⟨10,(.seq (.sreg QV [])
 (.seq (.seq (.sreg QU B4)
 (.cond (tm 4) (.seq (.sreg QT [])
 .ret)
 .skip))
 (.seq (.sreg QS B9)
 .ret))),[(.tmp 2)]⟩
attribute [push_cast] QV QU QT QS
theorem ade:bz Tryz.prog (fun _ _=>1) 23=some adf.raw:=by kernel_rfl
def QZ:LSO:=[Ac 4 0]
def QY:LSO:=[Aa 5 0,AN 6 5,Aa 7 6,.grp none 7 false
 [Ak 8 7 0,og 9 7 false (.nilchk (tm 8)),A9 10 7 1 9,A6 11 7 1 10,Ak 12 7 1,og 13 7 false (.mget .int false .nilptr (tm 11) (tm 12)),AS 14 7 13]
 15 (tm 14)]
def QX:LSO:=[Ac 4 0]
def QW:LSO:=[Aa 16 0,Ag 17 16,Ad 18 1 17,Ab 19 1 18,Aa 20 1,AK 21 19 20,Ag 22 21,Ad 23 3 22,Ab 24 1 23,Aa 4 24]
def adh:bh:=⟨25,(.seq (.sreg QZ [])
 (.seq (.seq (.sreg QY B6)
 (.cond (tm 15) (.seq (.sreg QX [])
 .ret)
 .skip))
 (.seq (.sreg QW BD)
 .ret))),[(.tmp 4)]⟩
attribute [push_cast] QZ QY QX QW
theorem adg:bz Tryz.prog (fun _ _=>1) 21=some adh.raw:=by kernel_rfl
set_option maxHeartbeats 8000000
set_option maxRecDepth 100000
theorem Pf {L:List Blk} {iv mn mi:Nat} {nb bn:Int→Nat} {ck ci:Nat} {rs:List TKy} {suf:List Rdn} {last:Int} {l:List az} (hc:aR L iv mn mi nb bn ck ci rs suf last l) {id:Int} {K:AV→List Blk→Prop} (h:K (.int .i64 (gy l id:Nat)) L) :
   ab Tryz.prog 21 [.ptr iv 0,.int .i64 id] L K:=by
 have hv:=hc.v
 have hn:=hc.n
 have hkf:aT .int (.int .i64 id)=true:=rfl
 unfold gy at h
 rcases hc.node id with ⟨e1,e2⟩|⟨x,n,e1,hx,hxi,e2,e3⟩
 · rw [e1] at h
   replace h:=hid h
   clear hc e1
   refine aa adg (by simp [adh]) ?_
   simp only [adh,am]
   refine wk ?_
   exact ak h.out
 · rw [e1] at h
   simp only at h
   obtain ⟨q,hq⟩:∃ q,aO (cE l) (NK x.nm)=q:=⟨_,rfl⟩
   unfold gE at e3
   rw [hq] at h e3
   replace h:=hid h
   clear hc e1 hx hxi hq
   refine aa adg (by simp [adh]) ?_
   simp only [adh,am]
   refine wk ?_
   exact ak h.out
theorem Pe {L:List Blk} {iv mn mi:Nat} {nb bn:Int→Nat} {ck ci:Nat} {rs:List TKy} {suf:List Rdn} {last:Int} {l:List az} (hc:aR L iv mn mi nb bn ck ci rs suf last l) {K:AV→List Blk→Prop} (h:K (.int .i64 (l.length:Nat)) L) :
   ab Tryz.prog 23 [.ptr iv 0] L K:=by
 have hv:=hc.v
 have hn:=hc.n
 have e0:(l.map (em nb bn)).length=l.length:=List.length_map _
 replace h:=hid h
 clear hc
 refine aa ade (by simp [adf]) ?_
 simp only [adf,am]
 refine wk ?_
 exact ak h.out
end Go.Proofs.YtdhjplmjpjfjnaaGreat.Av
set_option maxRecDepth 100000
namespace Go.Proofs.YtdhjplmjpjfjnaaGreat.Av
open Go
def Yz:LSO:=[An 4]
def Yy:LSO:=[Aa 19 0,Aa 20 1,Aq 21 9 19 20,Aa 18 21,Ar 22 18,Aw 23 18,Aa 5 22,Aa 6 23]
def Yn:LSO:=[o1 24 (.call 10 []),AJ 25 24,Aa 26 25,.grp none 26 false
 [Ak 27 26 5,AS 28 26 27]
 29 (tm 28)]
def Yd:LSO:=[o1 30 (.call 10 []),Aa 4 30]
def Yc:LSO:=[Aa 31 5,Ag 32 31,Ad 33 0 32,Ab 34 1 33,Aa 35 5,Ag 36 35,Ad 37 0 36,Ab 38 1 37,Aa 39 0,Aq 40 15 38 39,AU 41 12 34 40 2,Aa 7 41]
def Yb:LSO:=[.op ⟨(some 42),.mkmap,none⟩,Aa 8 42]
def Ya:LSO:=[Aa 43 7,Ae 44 43,Ac 45 0]
def X9:LSO:=[Al 46 45 44]
def X8:LSO:=[Aa 47 45,Aj 48 1 43 45,Ab 49 1 48,Aa 9 47,Aa 10 49]
def X7:LSO:=[Aa 50 8,Aa 51 10,o1 52 (.mget .int false (.int .i64 0) (tm 50) (tm 51)),Ai 53 52 2,o0 (.mset .int (tm 50) (tm 51) (tm 53))]
def Yx:LSO:=[Aa 54 5,Ag 55 54,Ad 56 0 55,Ab 57 1 56,Aa 58 10,AU 59 12 57 58 1,Aa 11 59]
def Yw:LSO:=[Aa 60 11,Ae 61 60,Aa 62 5,Ag 63 62,Ad 64 0 63,Ab 65 1 64,Aa 66 10,Aq 67 21 65 66,Bg 68 61 67]
def Yv:LSO:=[An 4]
def Yu:LSO:=[Aa 69 11,Ae 70 69,Ac 71 0]
def Yt:LSO:=[Al 72 71 70]
def Ys:LSO:=[Aj 73 1 69 71,Ab 74 1 73,Aa 13 74]
def Yr:LSO:=[Aa 75 8,Aa 76 13,o1 77 (.mget .int false (.int .i64 0) (tm 75) (tm 76)),Ai 78 77 1,o0 (.mset .int (tm 75) (tm 76) (tm 78))]
def Yq:LSO:=[Ai 79 71 1,Aa 71 79]
def Yp:LSO:=[Aa 81 5,Ag 82 81,Ad 83 0 82,Ab 84 1 83,Aa 85 10,Aq 86 16 84 85,Aa 80 86,Ar 87 80,Aw 88 80,Aa 14 87,Aa 15 88]
def Yo:LSO:=[Aa 89 5,Ag 90 89,Ad 91 0 90,Ab 92 1 91,Aa 93 14,Aq 94 15 92 93,Aa 95 10,Bg 96 94 95,Aa 97 96,.grp none 97 false
 [Ak 98 97 14,Ak 99 97 0,Bo 100 97 22 98 99,Bp 101 97 100]
 102 (tm 101),Aa 103 102,.grp none 103 false
 [Ak 104 103 9,AO 105 103 104 0,Ak 106 103 105,.grp (some (103,false)) 106 true
 [Af 107 106 5,AF 108 106 107,Ax 109 106 0 108,As 110 106 1 109,Af 111 106 14,og 112 106 true (.slV 1 (tm 111) (some (iv 1)) none none),AB 113 106 15 110 112,AH 114 106 113 0]
 115 (tm 114)]
 116 (tm 115)]
def Ym:LSO:=[An 4]
def Yl:LSO:=[Ai 117 45 1,Aa 45 117]
def Yk:LSO:=[Aa 118 7,Ae 119 118,Ac 120 0]
def Yj:LSO:=[Al 121 120 119]
def Yi:LSO:=[Aa 122 120,Aj 123 1 118 120,Ab 124 1 123,Aa 16 122,Aa 17 124]
def Yh:LSO:=[Aa 125 16,A3 126 125 0,Aa 127 126,.grp none 127 true
 [Af 128 127 8,Af 129 127 17,og 130 127 true (.mget .int false (.int .i64 0) (tm 128) (tm 129)),og 131 127 true (.bin .neq (tm 130) (iv 3))]
 132 (tm 131),Aa 133 132,.grp none 133 false
 [Ak 134 133 16,AT 135 133 134 0,Ak 136 133 135,.grp (some (133,false)) 136 true
 [Af 137 136 8,Af 138 136 17,og 139 136 true (.mget .int false (.int .i64 0) (tm 137) (tm 138)),og 140 136 true (.bin .neq (tm 139) (iv 2))]
 141 (tm 140)]
 142 (tm 141)]
def Yg:LSO:=[An 4]
def Yf:LSO:=[Ai 143 120 1,Aa 120 143]
def Ye:LSO:=[Aa 144 7,Ae 145 144,Aa 146 5,Ag 147 146,Ad 148 0 147,Ab 149 1 148,Ah 150 23 149,AC 151 145 150,Aa 152 151,.grp none 152 true
 [Af 153 152 8,og 154 152 true (.mlen (tm 153)),Af 155 152 7,AA 156 152 155,og 157 152 true (.bin .eql (tm 154) (tm 156))]
 158 (tm 157),Aa 4 158]
def aet:bh:=⟨159,(.seq (.sreg Yz [])
 (.seq (.sreg Yy BQ)
 (.seq (.seq (.sreg Yn B6)
 (.cond (tm 29) (.seq (.sreg Yd B4)
 .ret)
 .skip))
 (.seq (.sdreg Yc [.pure,(.read 0 0),.pure,(.read 0 0),.pure,(.read 0 0),.pure,(.read 0 0),.pure,(.read 0 0)] BJ)
 (.seq (.sreg Yb B4)
 (.seq (.seq (.sreg Ya [])
 (.block 0 (.loop (.seq (.sreg X9 [])
 (.seq (.cond (tm 46) .skip
 (.exit 0))
 (.seq (.block 1 (.seq (.sreg X8 BB)
 (.seq (.sreg X7 BE)
 (.seq (.sreg Yx B8)
 (.seq (.seq (.sreg Yw BF)
 (.cond (tm 68) (.seq (.sreg Yv [])
 .ret)
 .skip))
 (.seq (.seq (.sreg Yu [])
 (.block 2 (.loop (.seq (.sreg Yt [])
 (.seq (.cond (tm 72) .skip
 (.exit 2))
 (.seq (.block 3 (.seq (.sreg Ys B5)
 (.sreg Yr BE)))
 (.sreg Yq B4)))))))
 (.seq (.sreg Yp [false,true,false,false,false,false,false,false,false,false,false])
 (.seq (.sdreg Yo [.pure,(.read 0 0),.pure,(.read 0 0),.pure,(.read 0 0),.pure,.pure,.pure,.pure,.pure,(.read 0 0),.pure,.pure,.pure,.pure,.pure,.pure,.pure,(.read 0 0),.pure,(.read 0 0),.pure,(.read 0 0)] BJ)
 (.cond (tm 116) (.seq (.sreg Ym [])
 .ret)
 .skip)))))))))
 (.sreg Yl B4)))))))
 (.seq (.seq (.sreg Yk [])
 (.block 4 (.loop (.seq (.sreg Yj [])
 (.seq (.cond (tm 121) .skip
 (.exit 4))
 (.seq (.block 5 (.seq (.sreg Yi BB)
 (.seq (.sreg Yh B9)
 (.cond (tm 142) (.seq (.sreg Yg [])
 .ret)
 .skip))))
 (.sreg Yf B4)))))))
 (.seq (.sreg Ye BG)
 .ret)))))))),[(.tmp 4)]⟩
attribute [push_cast] Yz Yy Yn Yd Yc Yb Ya X9 X8 X7 Yx Yw Yv Yu Yt Ys Yr Yq Yp Yo Ym Yl Yk Yj Yi Yh Yg Yf Ye
theorem aes:bz Tryz.prog (fun _ _=>1) 5=some aet.raw:=by kernel_rfl
set_option maxHeartbeats 8000000
set_option maxRecDepth 100000
abbrev afB:=Int×Int×Nat
def afv (r:afB):AV×AV×Nat:=(.int .i64 r.1,.int .i64 r.2.1,r.2.2)
theorem P2:∀ (rs:List afB) (id:Int) (j:Nat),b7 (.int .i64 id) (rs.map afv) j=some ((rs.findIdx? fun r=>decide (r.1=id)).map fun n=>(j+n,.int .i64 (rs.getD n (0,0,0)).2.1))
 | [],id,j=>rfl
 | r::rs,id,j=>by
   by_cases h:r.1=id
   · subst h
     simp [b7,afv,sj,List.findIdx?_cons]
   · have h':¬ id=r.1:=fun e=>h e.symm
     have ih:=P2 rs id (j+1)
     simp only [List.map_cons,afv,b7,sj,List.findIdx?_cons,decide_eq_false h,decide_eq_false h',Bool.false_eq_true,if_false,if_true]
     rw [ih]
     cases rs.findIdx? (fun r=>decide (r.1=id)) with
     | none=>rfl
     | some n=>simp only [Option.map_some];rw [show j+1+n=j+(n+1) by omega];rfl
theorem afC:∀ (rs:List afB) (n:Nat) (k v:Int),KC (.int .i64 k) (.int .i64 v) (rs.map afv) n=(rs.set n (k,v,(rs.getD n (0,0,0)).2.2)).map afv
 | [],n,k,v=>by simp [KC]
 | r::rs,0,k,v=>rfl
 | r::rs,n+1,k,v=>by
   have ih:=afC rs n k v
   simp only [List.map_cons,afv,KC,List.set_cons_succ,List.getD_cons_succ]
   rw [← ih]
structure afu (rs:List afB) (W:List Int):Prop where
 nd:(rs.map (·.1)).Nodup
 val:∀ r∈rs,r.2.1=(W.count r.1:Int)∧r.1∈W
 all:∀ id∈W,id∈rs.map (·.1)
theorem afu.nil:afu [] []:=⟨List.nodup_nil,by simp,by simp⟩
theorem afu.get {rs:List afB} {W:List Int} (h:afu rs W) (id:Int):(rs.findIdx? (fun r=>decide (r.1=id))=none∧id ∉ W)∨∃ n,n<rs.length∧rs.findIdx? (fun r=>decide (r.1=id))=some n∧(rs.getD n (0,0,0)).1=id∧(rs.getD n (0,0,0)).2.1=(W.count id:Int):=by
 rcases hf:rs.findIdx? (fun r=>decide (r.1=id)) with _|n
 · refine .inl ⟨hf,fun hw=>?_⟩
   obtain ⟨r,hr,e⟩:=List.mem_map.1 (h.all id hw)
   have hf2:=hf
   rw [List.findIdx?_eq_none_iff] at hf2
   have:=hf2 r hr
   simp [e] at this
 · have hf2:=hf
   rw [List.findIdx?_eq_some_iff_getElem] at hf2
   obtain ⟨hn,h1,_⟩:=hf2
   rw [decide_eq_true_eq] at h1
   have hg:rs.getD n (0,0,0)=rs[n]:=by simp [hn]
   refine .inr ⟨n,hn,hf,by rw [hg];exact h1,?_⟩
   rw [hg,(h.val rs[n] (List.getElem_mem hn)).1,h1]
theorem afu.new {rs:List afB} {W:List Int} (h:afu rs W) {id:Int} (hi:id ∉ W) (a ck:Nat) (ha:0<a):afu (rs++[(id,(a:Int),ck)]) (W++List.replicate a id):=by
 have hno:id ∉ rs.map (·.1):=fun hm=>by
   obtain ⟨r,hr,e⟩:=List.mem_map.1 hm
   exact hi (e ▸ (h.val r hr).2)
 refine ⟨?_,fun r hr=>?_,fun k hk=>?_⟩
 · rw [List.map_append,List.nodup_append]
   refine ⟨h.nd,by simp,fun x hx y hy=>?_⟩
   simp only [List.map_cons,List.map_nil,List.mem_singleton] at hy
   rw [hy];exact fun e=>hno (e ▸ hx)
 · rcases List.mem_append.1 hr with hr|hr
   · obtain ⟨h1,h2⟩:=h.val r hr
     have hne:¬ id=r.1:=fun e=>hi (e ▸ h2)
     refine ⟨?_,List.mem_append_left _ h2⟩
     rw [h1,List.count_append,List.count_replicate]
     simp [hne]
   · rw [List.mem_singleton.1 hr]
     refine ⟨?_,List.mem_append_right _ (by simp;omega)⟩
     simp only
     rw [List.count_append,List.count_replicate,List.count_eq_zero.2 hi];simp
 · rw [List.map_append]
   rcases List.mem_append.1 hk with hk|hk
   · exact List.mem_append_left _ (h.all k hk)
   · rw [List.eq_of_mem_replicate hk];simp
theorem afu.more {rs:List afB} {W:List Int} (h:afu rs W) {id:Int} {n:Nat} (hn:n<rs.length) (h1:(rs.getD n (0,0,0)).1=id) (a b:Nat):afu (rs.set n (id,((W.count id:Int)+a),b)) (W++List.replicate a id):=by
 have hg:rs.getD n (0,0,0)=rs[n]:=by simp [hn]
 rw [hg] at h1
 have hm:(rs.set n (id,((W.count id:Int)+a),b)).map (·.1)=rs.map (·.1):=by
   rw [List.map_set]
   apply List.ext_getElem (by simp)
   intro i h2 h3
   rw [List.getElem_set]
   split
   · rename_i e;subst e;simp [h1]
   · rfl
 have hidW:id∈W:=h1 ▸ (h.val rs[n] (List.getElem_mem hn)).2
 refine ⟨by rw [hm];exact h.nd,fun r hr=>?_,fun k hk=>?_⟩
 · rcases List.mem_or_eq_of_mem_set hr with hr'|e
   · by_cases e:r.1=id
     · obtain ⟨i,hi,hri⟩:=List.getElem_of_mem hr
       rw [List.getElem_set] at hri
       split at hri
       · rw [← hri]
         refine ⟨?_,List.mem_append_left _ hidW⟩
         simp only
         rw [List.count_append,List.count_replicate];simp
       · rename_i hne
         exfalso
         have hi2:i<rs.length:=by simpa using hi
         have hnd:=List.pairwise_iff_getElem.1 h.nd
         rcases Nat.lt_or_ge n i with q|q
         · exact hnd n i (by simpa using hn) (by simpa using hi2) q (by simp [h1,hri,e])
         · exact hnd i n (by simpa using hi2) (by simpa using hn) (by omega) (by simp [h1,hri,e])
     · obtain ⟨q1,q2⟩:=h.val r hr'
       refine ⟨?_,List.mem_append_left _ q2⟩
       rw [q1,List.count_append,List.count_replicate]
       have:¬ id=r.1:=fun x=>e x.symm
       simp [this]
   · rw [e]
     refine ⟨?_,List.mem_append_left _ hidW⟩
     simp only
     rw [List.count_append,List.count_replicate];simp
 · rw [hm]
   rcases List.mem_append.1 hk with hk|hk
   · exact h.all k hk
   · rw [List.eq_of_mem_replicate hk];exact h.all id hidW
theorem afu.len {rs:List afB} {W ids:List Int} (h:afu rs W) (hi:ids.Nodup) (he:∀ x,x∈W↔x∈ids):rs.length=ids.length:=by
 have hp:(rs.map (·.1)).Perm ids:=(List.perm_ext_iff_of_nodup h.nd hi).2 fun x=>by
   rw [← he x]
   constructor
   · intro hx
     obtain ⟨r,hr,e⟩:=List.mem_map.1 hx
     exact e ▸ (h.val r hr).2
   · exact h.all x
 have:=hp.length_eq
 rwa [List.length_map] at this
theorem afH:∀ {a b:Pth},a <+: b→a≠b→pLt a b=true
 | [],[],_,h=>absurd rfl h
 | [],y::b,_,_=>by show decide ((-1:Int)<0)=true;decide
 | x::a,[],h,_=>by simp at h
 | x::a,y::b,h,hne=>by
   rw [List.cons_prefix_cons] at h
   obtain ⟨rfl,h⟩:=h
   have ih:=afH h (fun e=>hne (by rw [e]))
   unfold pLt at ih ⊢
   unfold cpP
   rw [K3]
   simpa using ih
theorem afE {suf:List Rdn} {last:Int} {l:List az} (ht:TOk suf last l):∀ (n:Nat) (x:az),x∈l→(NK x.nm).length≤n→∃ r∈l,NK r.nm=NK suf
 | 0,x,hx,hn=>by
   have h1:=ht.inv.un _ (dJ hx)
   have h2:NK x.nm=[]:=List.eq_nil_of_length_eq_zero (by omega)
   rw [h2] at h1
   exact absurd (List.suffix_nil.1 h1) ht.inv.sne
 | n+1,x,hx,hn=>by
   rcases ht.inv.par _ (dJ hx) with h1|⟨k,hk,e⟩
   · exact ⟨x,hx,h1⟩
   · obtain ⟨y,hy,rfl⟩:=List.mem_map.1 hk
     refine afE ht n y hy ?_
     simp only at e
     rw [e,List.length_tail];omega
theorem afN {suf:List Rdn} {last:Int} {l:List az} (ht:TOk suf last l) {r:az} (hr:r∈l) (e:NK r.nm=NK suf) {y:az} (hy:y∈l):eQ r 2 y=true:=by
 unfold eQ
 rw [bw.2 ⟨ht.ok y hy,ht.ok r hr,by rw [e];exact ht.inv.un _ (dJ hy)⟩]
 simp
theorem afF {suf:List Rdn} {last:Int} {l:List az} (ht:TOk suf last l) {r:az} (hr:r∈l) (e:NK r.nm=NK suf):(scL l r 2).Perm l:=by
 have h1:l.filter (eQ r 2)=l:=List.filter_eq_self.2 fun y hy=>afN ht hr e hy
 have h2:(scL l r 2).Perm (l.filter (eQ r 2)):=List.mergeSort_perm _ _
 rwa [h1] at h2
theorem afL {suf:List Rdn} {last:Int} {l:List az} (ht:TOk suf last l) {r:az} (hr:r∈l) (e:NK r.nm=NK suf):(scL l r 2).getD 0 default=r:=by
 have hp:=afF ht hr e
 have hs:=List.pairwise_mergeSort (le:=leE) (fun a b c=>E7 a b c) E8 (l.filter (eQ r 2))
 change (scL l r 2).Pairwise fun x y=>leE x y=true at hs
 have hm:r∈scL l r 2:=hp.mem_iff.2 hr
 rcases hc:scL l r 2 with _|⟨h,t⟩
 · rw [hc] at hm;cases hm
 · rw [hc] at hm hs hp
   show h=r
   rcases List.mem_cons.1 hm with q|q
   · exact q.symm
   · have h1:=(List.pairwise_cons.1 hs).1 r q
     have hh:h∈l:=hp.mem_iff.1 (List.mem_cons_self ..)
     have h2:=ht.inv.un _ (dJ hh)
     simp only at h2
     refine ht.byN hh hr ?_
     apply Classical.byContradiction
     intro hne
     have h3:pth r <+: pth h:=by
       unfold pth
       exact List.reverse_prefix.2 (by rw [e];exact h2)
     have h4:=afH h3 (fun q=>hne (Fw q).symm)
     unfold leE at h1
     rw [h4] at h1;simp at h1
theorem afM {suf:List Rdn} {last:Int} {l:List az} (ht:TOk suf last l) {a y:az} (ha:a∈l) (hy:y∈l):y∈scL l a 1↔(NK y.nm≠NK suf∧(NK y.nm).tail=NK a.nm):=by
 have h2:(scL l a 1).Perm (l.filter (eQ a 1)):=List.mergeSort_perm _ _
 rw [h2.mem_iff,List.mem_filter]
 unfold eQ
 rw [Bool.and_eq_true,bw]
 have hla:=(ht.inv.un _ (dJ ha)).length_le
 simp only at hla
 have l1:(NK y.nm).length=y.nm.length:=aQ _
 have l2:(NK a.nm).length=a.nm.length:=aQ _
 constructor
 · rintro ⟨_,⟨_,_,q⟩,hd⟩
   have hd:y.nm.length=a.nm.length+1:=by
     simp only [Bool.or_eq_true,decide_eq_true_eq] at hd
     rcases hd with hd|hd
     · exact absurd hd (by decide)
     · omega
   refine ⟨fun e=>?_,?_⟩
   · have:=congrArg List.length e
     omega
   · obtain ⟨p,hp⟩:=q
     have hpl:=congrArg List.length hp
     rw [List.length_append] at hpl
     match p,hpl with
     | [k],_=>rw [← hp];rfl
     | [],h=>simp at h;omega
     | _::_::_,h=>simp at h;omega
 · rintro ⟨h1,h3⟩
   have hne:NK y.nm≠[]:=fun e=>by
     have:=ht.inv.un _ (dJ hy)
     simp only [e] at this
     exact ht.inv.sne (List.suffix_nil.1 this)
   obtain ⟨k,t,hkt⟩:∃ k t,NK y.nm=k::t:=List.exists_cons_of_ne_nil hne
   rw [hkt] at h3
   simp only [List.tail_cons] at h3
   have hlen:=congrArg List.length hkt
   rw [List.length_cons,h3] at hlen
   refine ⟨hy,⟨ht.ok y hy,ht.ok a ha,by rw [hkt,h3];exact List.suffix_cons _ _⟩,?_⟩
   simp only [Bool.or_eq_true,decide_eq_true_eq]
   right;omega
theorem afA {β:Type} {g:β→List Int} {P:β→Bool} {k:Int}:∀ {ws:List β},(∀ a∈ws,(g a).count k=if P a=true then 1 else 0)→(ws.flatMap g).count k=ws.countP P
 | [],_=>rfl
 | a::ws,h=>by
   rw [List.flatMap_cons,List.count_append,h a (List.mem_cons_self ..),afA fun b hb=>h b (List.mem_cons_of_mem _ hb),List.countP_cons]
   omega
theorem afD:∀ {l:List Int} {k:Int},l.Nodup→k∈l→l.count k=1
 | x::l,k,hn,hk=>by
   rw [List.nodup_cons] at hn
   rw [List.count_cons]
   by_cases e:x=k
   · subst e
     rw [List.count_eq_zero.2 hn.1];simp
   · rw [afD hn.2 (by rcases List.mem_cons.1 hk with q|q;exact absurd q.symm e;exact q)]
     simp [e]
theorem afx {β:Type} {P:β→Bool} {p:β}:∀ {ws:List β},ws.Nodup→p∈ws→(∀ a∈ws,P a=true↔a=p)→ws.countP P=1
 | a::ws,hn,hp,h=>by
   rw [List.nodup_cons] at hn
   rw [List.countP_cons]
   by_cases e:a=p
   · subst e
     rw [if_pos ((h a (List.mem_cons_self ..)).2 rfl)]
     rw [List.countP_eq_zero.2 fun b hb hb2=>?_]
     have:=(h b (List.mem_cons_of_mem _ hb)).1 hb2
     subst this;exact hn.1 hb
   · rw [if_neg fun q=>e ((h a (List.mem_cons_self ..)).1 q)]
     rw [afx hn.2 (by rcases List.mem_cons.1 hp with q|q;exact absurd q.symm e;exact q) fun b hb=>h b (List.mem_cons_of_mem _ hb)]
def whW (l:List az) (ws:List az):List Int:=ws.flatMap fun a=>a.id::a.id::(scL l a 1).map (·.id)
theorem afJ {suf:List Rdn} {last:Int} {l:List az} (ht:TOk suf last l) {ws:List az} (hp:ws.Perm l) {y:az} (hy:y∈l):(whW l ws).count y.id=if NK y.nm=NK suf then 2 else 3:=by
 have hnd:ws.Nodup:=hp.nodup_iff.2 ht.nodup
 have e1:(whW l ws).count y.id=(ws.flatMap fun a=>[a.id,a.id]).count y.id+(ws.flatMap fun a=>(scL l a 1).map (·.id)).count y.id:=by
   unfold whW
   clear hp hnd
   induction ws with
   | nil=>rfl
   | cons a ws ih =>
     simp only [List.flatMap_cons,List.count_append,List.count_cons,List.count_nil] at ih ⊢
     omega
 have e2:(ws.flatMap fun a=>[a.id]).count y.id=1:=by
   rw [afA (P:=fun a=>decide (a.id=y.id)) fun a _=>by simp only [List.count_cons,List.count_nil,decide_eq_true_eq,beq_iff_eq,Nat.zero_add]]
   exact afx hnd (hp.mem_iff.2 hy) fun a ha=>by
     rw [decide_eq_true_eq]
     exact ⟨fun e=>ht.byI (hp.mem_iff.1 ha) hy e,fun e=>by rw [e]⟩
 have e3:(ws.flatMap fun a=>[a.id,a.id]).count y.id=2 * (ws.flatMap fun a=>[a.id]).count y.id:=by
   clear hp hnd e1 e2
   induction ws with
   | nil=>rfl
   | cons a ws ih =>
     simp only [List.flatMap_cons,List.count_append,List.count_cons,List.count_nil] at ih ⊢
     omega
 have e4:(ws.flatMap fun a=>(scL l a 1).map (·.id)).count y.id=ws.countP fun a=>decide (NK y.nm≠NK suf∧(NK y.nm).tail=NK a.nm):=by
   refine afA fun a ha=>?_
   have hal:=hp.mem_iff.1 ha
   have hk:=afM ht hal hy
   have hn:=Kk ht a 1
   by_cases c:NK y.nm≠NK suf∧(NK y.nm).tail=NK a.nm
   · rw [if_pos (by simpa using c)]
     exact afD hn (List.mem_map.2 ⟨y,hk.2 c,rfl⟩)
   · rw [if_neg (by simpa using c)]
     refine List.count_eq_zero.2 fun hm=>c ?_
     obtain ⟨z,hz,e⟩:=List.mem_map.1 hm
     have hzl:z∈l:=(List.mem_filter.1 ((List.mergeSort_perm _ _).mem_iff.1 hz)).1
     have:=ht.byI hzl hy e
     subst this
     exact hk.1 hz
 rw [e1,e3,e2,e4]
 by_cases c:NK y.nm=NK suf
 · rw [if_pos c,List.countP_eq_zero.2 fun a _ h=>?_]
   simp [c] at h
 · rw [if_neg c]
   rcases ht.inv.par _ (dJ hy) with h1|⟨k,hk,e⟩
   · exact absurd h1 c
   · obtain ⟨p,hpl,rfl⟩:=List.mem_map.1 hk
     simp only at e
     rw [afx (p:=p) hnd (hp.mem_iff.2 hpl) fun a ha=>?_]
     rw [decide_eq_true_eq]
     constructor
     · rintro ⟨_,q⟩
       exact ht.byN (hp.mem_iff.1 ha) hpl (by rw [e,q])
     · rintro rfl
       exact ⟨c,e.symm⟩
theorem afI {l ws:List az} (hp:ws.Perm l) (x:Int):x∈whW l ws↔x∈ws.map (·.id):=by
 unfold whW
 rw [List.mem_flatMap,List.mem_map]
 constructor
 · rintro ⟨a,ha,h⟩
   rcases List.mem_cons.1 h with h|h
   · exact ⟨a,ha,h.symm⟩
   · rcases List.mem_cons.1 h with h|h
     · exact ⟨a,ha,h.symm⟩
     · obtain ⟨z,hz,e⟩:=List.mem_map.1 h
       have hzl:z∈l:=(List.mem_filter.1 ((List.mergeSort_perm _ _).mem_iff.1 hz)).1
       exact ⟨z,hp.mem_iff.2 hzl,e⟩
 · rintro ⟨a,ha,e⟩
   exact ⟨a,ha,by rw [← e];exact List.mem_cons_self ..⟩
theorem afG (l:List az):∀ ws:List az,(whW l ws).length≤ws.length * (2+l.length)
 | []=>by simp [whW]
 | a::ws=>by
   have ih:=afG l ws
   unfold whW at ih ⊢
   rw [List.flatMap_cons,List.length_append,show (a::ws).length=ws.length+1 from rfl,Nat.add_mul,Nat.one_mul]
   simp only [List.length_cons,List.length_map]
   have:=It l a 1
   omega
theorem afK {suf:List Rdn} (hs:Ex suf∧∀ r∈suf,∀ a∈r,(a.1.length:Int)≤140737488351232) {us:List Upd} (hn:(us.length:Int)≤9223372036854775807) (hu:∀ u∈us,Lg u) {cp:Option Nat} {K:AV→List Blk→Prop}
   (h:K (.bool true) []):ab Tryz.prog 5 [dnA suf,.sl (us.flatMap sq) us.length cp] [] K:=by
 replace h:=hid h
 obtain ⟨US,hUS⟩:∃ US,us.flatMap sq=US:=⟨_,rfl⟩
 have kM:Hid (∀ {L:List Blk} {K:AV→List Blk→Prop},(∀ L',Hid (dx L L')→K (.tup [.nilptr,.nilptr]) L')→(∀ L' it iv mn mi rt nb bn ck ci rs c last l,Hid (Ll L' it iv mn mi rt nb bn ck ci rs c suf last l)→Hid (dx L L')→K (.tup [.ptr it 0,.ptr rt 0]) L')→ab Tryz.prog 9 [dnA suf,.sl US us.length cp] L K):=@hid _ (by
   intro L K q0 q1
   rw [← hUS]
   exact NB hs hn hu (fun L' k=>q0 L' (hid k)) (fun L' it iv mn mi rt nb bn ck ci rs c last l k1 k2=>q1 L' it iv mn mi rt nb bn ck ci rs c last l (hid k1) (hid k2)))
 have kk1:Hid (Ctr Tryz.prog 10 [] (.bool true)):=@hid _ (by intro L K q;exact ME q)
 rw [hUS]
 clear hs hn hu hUS
 refine aa aes (by simp [aet]) ?_
 simp only [aet,am]
 generalize hlc:aS.seq (aS.sreg X7 _) _=lc9
 replace hlc:=hid hlc
 refine wk ?_
 refine kM.out (fun L' hk=>?_) fun L' it iv mn mi rt nb bn ck ci rs c last l hm hk=>?_
 · clear kM
   refine wk ?_
   exact ac (L2:=L') rfl h.out
 have hi:=hm.out.it
 have hlen:=hm.out.len
 have ai:∀ X:List Blk,(L'++X)[it]?=some (.cells [.ptr iv 0]):=fun X=>by rw [List.getElem?_append_left (List.getElem?_eq_some_iff.1 hi).1];exact hi
 have hsb:=hm.out.ok.sok.m.b
 obtain ⟨s,hs⟩:∃ z,aN l suf=z:=⟨_,rfl⟩
 have hws:Hid (∃ ws:List az,ws.Perm l∧scT l s 2=ws.map (·.id)∧∀ i,i<ws.length→(i=0↔NK (ws.getD i default).nm=NK suf)):=hid (by
   by_cases hl0:l=[]
   · subst hl0
     refine ⟨[],List.Perm.refl _,?_,by simp⟩
     unfold scT mE;rfl
   · obtain ⟨y,hy⟩:=List.exists_mem_of_ne_nil l hl0
     obtain ⟨r,hr,e⟩:=afE hm.out.ok _ y hy (Nat.le_refl _)
     have hp:=afF hm.out.ok hr e
     have hsr:s=r.id:=by
       rw [← hs];unfold aN
       rw [hm.out.ok.at hr hm.out.ok.sok e.symm]
     refine ⟨scL l r 2,hp,by rw [hsr];exact Gi (hm.out.ok.ent hr),fun i hi=>?_⟩
     have h0:=afL hm.out.ok hr e
     have hnd:(scL l r 2).Nodup:=hp.nodup_iff.2 hm.out.ok.nodup
     have hpos:0<(scL l r 2).length:=by omega
     have g0:(scL l r 2).getD 0 default=(scL l r 2)[0]:=by simp [hpos]
     have giQv:(scL l r 2).getD i default=(scL l r 2)[i]:=by simp [hi]
     constructor
     · rintro rfl;rw [h0,e]
     · intro q
       have hxm:(scL l r 2).getD i default∈l:=hp.mem_iff.1 (by rw [giQv];exact List.getElem_mem hi)
       have:=hm.out.ok.byN hxm hr (by rw [q,e])
       rw [giQv] at this
       rw [g0] at h0
       apply Classical.byContradiction
       intro hne
       exact List.pairwise_iff_getElem.1 hnd 0 i hpos hi (by omega) (by rw [h0,this]))
 obtain ⟨ws,hp,hsc,hrt⟩:=hws.out
 have hwl:ws.length=l.length:=hp.length_eq
 have kk2:Hid (∀ {K:AV→List Blk→Prop},K (.int .i64 s) L'→ab Tryz.prog 15 [.ptr iv 0,dnA suf] L' K):=@hid _ (by
   intro K q;exact ov hsb hm.out.ok hm.out.code (by rw [hs];exact q))
 have kk3:Hid (∀ {K:AV→List Blk→Prop},K (.sl ((ws.map (·.id)).map (AV.int .i64)) ws.length none) L'→ab Tryz.prog 12 [.ptr iv 0,.int .i64 s,.int .i64 2] L' K):=@hid _ (by
   intro K q;exact C9 hm.out.ok (by omega) hm.out.code (by rw [hsc,List.length_map];exact q))
 obtain ⟨AL,hAL⟩:∃ AL,(ws.map (·.id)).map (AV.int .i64)=AL:=⟨_,rfl⟩
 rw [hAL] at kk3
 have hall:AL.length=ws.length:=by rw [← hAL];simp
 have hgt:Hid (∀ i,i<ws.length→AL.getD i .undef=.int .i64 (ws.getD i default).id):=hid (fun i h2=>by
   rw [← hAL,List.getD_eq_getElem?_getD,List.getD_eq_getElem?_getD];simp [h2])
 have hp2:=hid hp
 have hrt2:=hid hrt
 clear kM hk hws hp hsc hrt hAL hs hsb
 refine wk ?_
 clear kk1 kk2 kk3 hi
 have hgm:∀ b:Blk,(L'++[b])[L'.length]?=some b:=fun b=>by rw [List.getElem?_append_right (Nat.le_refl _)];simp
 have hsm:∀ b b':Blk,(L'++[b]).set L'.length b'=L'++[b']:=fun b b'=>by rw [List.set_append_right _ _ (Nat.le_refl _)];simp
 have w2:IntKind.i64.wrap 2=2:=by decide
 have w1:IntKind.i64.wrap 1=1:=by decide
 have hW0:Hid (afu [] (whW l (ws.take 0))):=hid afu.nil
 refine ax (fun m T'' L''=>∃ (j:Nat) (rs2:List afB) (ck2:Nat),m=l.length - j∧j≤l.length∧Hid (afu rs2 (whW l (ws.take j)))∧T''=[(45,.int .i64 (j:Int)),(44,.int .i64 l.length),(43,.sl AL l.length none),(8,.lmap L'.length),(7,.sl AL l.length none),(5,.ptr it 0),(0,dnA suf)]∧L''=L'++[.map (rs2.map afv) ck2]) (CutS (b:=Nat.le_refl _)) ⟨0,[],0,rfl,Nat.zero_le _,hW0,rfl,rfl⟩ ?_
 rintro _ _ _ ⟨j,rs2,ck2,rfl,hj,hW,rfl,rfl⟩
 by_cases hjl:j<l.length
 · have j1:(j:Int)<(l.length:Int):=by omega
   have j2:IntKind.i64.wrap ((j:Int)+1)=(j:Int)+1:=ah (by omega) (by omega)
   have hjw:j<ws.length:=by omega
   have e1:=hgt.out j hjw
   have hja:j<AL.length:=by omega
   have hxw:ws.getD j default∈ws:=by simp [hjw]
   obtain ⟨x,hx⟩:∃ x,ws.getD j default=x:=⟨_,rfl⟩
   rw [hx] at e1 hxw
   have hxl:=hp2.out.mem_iff.1 hxw
   obtain ⟨W,hWe⟩:∃ W,whW l (ws.take j)=W:=⟨_,rfl⟩
   rw [hWe] at hW
   have hWl:W.length≤20000:=by
     have a1:=afG l (ws.take j)
     rw [hWe] at a1
     have a2:(ws.take j).length * (2+l.length)≤100 * 102:=Nat.mul_le_mul (by rw [List.length_take];omega) (by omega)
     omega
   have htk:whW l (ws.take (j+1))=W++([x.id,x.id]++(scL l x 1).map (·.id)):=by
     have:ws[j]=x:=by rw [← hx];simp [hjw]
     rw [List.take_succ_eq_append_getElem hjw,this,← hWe]
     unfold whW
     rw [List.flatMap_append,List.flatMap_cons,List.flatMap_nil,List.append_nil];rfl
   have hroot:=hrt2.out j hjw
   rw [hx] at hroot
   obtain ⟨xi,hxi⟩:∃ z,x.id=z:=⟨_,rfl⟩
   rw [hxi] at e1 htk
   have hxi2:=hid hxi
   have htk2:=hid htk
   have hroot2:=hid hroot
   have hxl2:=hid hxl
   have hkf:aT .int (.int .i64 xi)=true:=rfl
   clear hxi htk hroot hxl hx hxw hWe
   refine wk ?_
   rw [← hlc.out]
   refine F6 (fun T2 L2=>∃ (rs3:List afB) (ck3:Nat),Hid (afu rs3 (W++[xi,xi]))∧T2=[(10,.int .i64 xi),(9,.int .i64 (j:Int)),(45,.int .i64 (j:Int)),(44,.int .i64 l.length),(43,.sl AL l.length none),(8,.lmap L'.length),(7,.sl AL l.length none),(5,.ptr it 0),(0,dnA suf)]∧L2=L'++[.map (rs3.map afv) ck3]) ?_ ?_
   · rcases hW.out.get xi with ⟨g1,g2⟩|⟨n,g0,g1,g2,g3⟩
     · have e2:b7 (.int .i64 xi) (rs2.map afv) 0=some none:=by rw [P2,g1];rfl
       have hN:=hid (hW.out.new g2 2 ck2 (by omega))
       clear g1 g2
       refine wk ?_
       exact z6 _ _ (CutL (b:=by simp)) ⟨_,ck2+1,hN,rfl,by simp [afv]⟩
     · have e2:b7 (.int .i64 xi) (rs2.map afv) 0=some (some (n,.int .i64 (W.count xi:Int))):=by rw [P2,g1,Option.map_some,g3,Nat.zero_add]
       have hN:=hid (hW.out.more g0 g2 2 (rs2.getD n (0,0,0)).2.2)
       have e3:=fun v=>afC rs2 n xi v
       have hcb:W.count xi≤1000000:=Nat.le_trans List.count_le_length (by omega)
       obtain ⟨cnQv,hcn⟩:∃ z,W.count xi=z:=⟨_,rfl⟩
       rw [hcn] at e2 hN hcb
       have w3:IntKind.i64.wrap ((cnQv:Int)+2)=(cnQv:Int)+2:=ah (by omega) (by omega)
       clear g0 g1 g2 g3 hcn
       refine wk ?_
       exact z6 _ _ (CutL (b:=by simp)) ⟨_,_,hN,rfl,rfl⟩
   · rintro _ _ ⟨rs3,ck3,hW3,rfl,rfl⟩ _
     have hxl:=hxl2.out
     have hxi:=hxi2.out
     obtain ⟨KIQv,hKI⟩:∃ k,(scL l x 1).map (·.id)=k:=⟨_,rfl⟩
     have hkl:KIQv.length≤100:=by rw [← hKI,List.length_map];have:=It l x 1;omega
     have hxb:=(hm.out.ok.ok x hxl).m.b
     have hfx:aN l x.nm=xi:=by rw [← hxi];unfold aN;rw [hm.out.ok.at hxl (hm.out.ok.ok x hxl) rfl]
     have hsc1:scT l xi 1=KIQv:=by
       unfold scT
       rw [← hxi,hm.out.ok.ent hxl]
       dsimp only
       rw [if_neg (by decide)];exact hKI
     have hkd:gy l xi=KIQv.length:=by
       rw [← hxi,← hKI,List.length_map]
       unfold gy
       rw [hm.out.ok.ent hxl]
       dsimp only
       have hpk:(scL l x 1).Perm (l.filter (eQ x 1)):=List.mergeSort_perm _ _
       rw [hm.out.ok.kids hxl,hpk.length_eq]
       congr 1
       refine List.filter_congr fun k hk=>?_
       unfold eQ
       rw [Bool.eq_iff_iff]
       simp only [Bool.and_eq_true,Bool.or_eq_true,decide_eq_true_eq]
       constructor
       · rintro ⟨q1,q2⟩;exact ⟨q2,.inr (by omega)⟩
       · rintro ⟨q1,q2⟩
         refine ⟨?_,q1⟩
         rcases q2 with q2|q2
         · exact absurd q2 (by decide)
         · omega
     obtain ⟨KAQv,hKA⟩:∃ k,KIQv.map (AV.int .i64)=k:=⟨_,rfl⟩
     have hka:KAQv.length=KIQv.length:=by rw [← hKA,List.length_map]
     have hkg:Hid (∀ i,i<KIQv.length→KAQv.getD i .undef=.int .i64 (KIQv.getD i 0)):=hid (fun i h2=>by
       rw [← hKA,List.getD_eq_getElem?_getD,List.getD_eq_getElem?_getD];simp [h2])
     have kk1:Hid (∀ {X:List Blk} {K:AV→List Blk→Prop},K (.sl KAQv KIQv.length none) (L'++X)→ab Tryz.prog 12 [.ptr iv 0,.int .i64 xi,.int .i64 1] (L'++X) K):=@hid _ (by
       intro X K q;exact C9 hm.out.ok (by omega) (hm.out.code.app X) (by rw [hsc1,hKA];exact q))
     have kk2:Hid (∀ {X:List Blk} {K:AV→List Blk→Prop},K (.int .i64 (KIQv.length:Nat)) (L'++X)→ab Tryz.prog 21 [.ptr iv 0,.int .i64 xi] (L'++X) K):=@hid _ (by
       intro X K q;exact Pf (hm.out.code.app X) (by rw [hkd];exact q))
     have kk3:Hid (∀ {X:List Blk} {K:AV→List Blk→Prop},K (.tup [dnA x.nm,atR x.av]) (L'++X)→ab Tryz.prog 16 [.ptr iv 0,.int .i64 xi] (L'++X) K):=@hid _ (by
       intro X K q
       rw [← hxi]
       refine Gc hm.out.ok hm.out.av (hm.out.code.app X) (fun e=>?_) (fun y e=>?_)
       · rw [hm.out.ok.ent hxl] at e;cases e
       · rw [hm.out.ok.ent hxl] at e;cases e;exact q)
     have kk4:Hid (∀ {X:List Blk} {K:AV→List Blk→Prop},K (.int .i64 xi) (L'++X)→ab Tryz.prog 15 [.ptr iv 0,dnA x.nm] (L'++X) K):=@hid _ (by
       intro X K q;exact ov hxb hm.out.ok (hm.out.code.app X) (by rw [hfx];exact q))
     have kk5:Hid (Ctr Tryz.prog 22 [dnA x.nm,dnA suf] (.bool true)):=@hid _ (by
       intro L K q
       refine oF (hm.out.ok.ok x hxl).m hm.out.ok.sok.m ?_
       rw [bw.2 ⟨hm.out.ok.ok x hxl,hm.out.ok.sok,hm.out.ok.inv.un _ (dJ hxl)⟩];exact q)
     have hnl:(1:Int)≤(x.nm.length:Int):=by
       have a1:=(hm.out.ok.inv.un _ (dJ hxl)).length_le
       simp only at a1
       have a2:(NK suf).length≠0:=fun e=>hm.out.ok.inv.sne (List.eq_nil_of_length_eq_zero e)
       have a3:=aQ x.nm
       omega
     have htl2:Hid (NK x.nm≠NK suf→∃ p:Int,p≠0∧∀ {X:List Blk} {K:AV→List Blk→Prop},K (.int .i64 p) (L'++X)→ab Tryz.prog 15 [.ptr iv 0,.sl (List.take (x.nm.length - 1) (List.drop 1 (x.nm.map ao))) (x.nm.length - 1) none] (L'++X) K):=hid (fun hne=>by
       refine ⟨aN l x.nm.tail,?_,fun {X K} q=>?_⟩
       · rcases hm.out.ok.inv.par _ (dJ hxl) with e|⟨k,hk,e⟩
         · exact absurd e hne
         · obtain ⟨y,hy,rfl⟩:=List.mem_map.1 hk
           simp only at e
           have hot:OkD x.nm.tail:=(hm.out.ok.ok x hxl).tail
           unfold aN
           rw [hm.out.ok.at hy hot (by rw [e,zy])]
           have:=(hm.out.ok.ids y hy).1
           show y.id≠0
           omega
       · have e1:List.take (x.nm.length - 1) (List.drop 1 (x.nm.map ao))=x.nm.tail.map ao:=by
           rw [List.drop_one,List.take_of_length_le (by simp),List.map_tail]
         have e2:x.nm.length - 1=x.nm.tail.length:=by simp
         rw [e1,e2]
         exact ov ⟨by have:=hxb.1;simp;omega,fun r hr=>hxb.2 r (List.mem_of_mem_tail hr)⟩ hm.out.ok (hm.out.code.app X) q)
     obtain ⟨AT,hAT⟩:∃ a,atR x.av=a:=⟨_,rfl⟩
     rw [hAT] at kk3
     have hKI2:=hid hKI
     clear hxb hfx hsc1 hkd hKI hKA hxl hxi hAT
     refine wk ?_
     obtain ⟨W2Qv,hW2⟩:∃ w,W++[xi,xi]=w:=⟨_,rfl⟩
     have hW2l:W2Qv.length=W.length+2:=by rw [← hW2];simp
     have htk3:Hid (whW l (ws.take (j+1))=W2Qv++KIQv):=hid (by rw [htk2.out,← List.append_assoc,hW2,hKI2.out])
     rw [hW2] at hW3
     clear hW2 htk2
     have hV0:Hid (afu rs3 (W2Qv++KIQv.take 0)):=hid (by rw [List.take_zero,List.append_nil];exact hW3.out)
     refine ax (fun m T'' L''=>∃ (i:Nat) (rs4:List afB) (ck4:Nat),m=KIQv.length - i∧i≤KIQv.length∧Hid (afu rs4 (W2Qv++KIQv.take i))∧T''=[(71,.int .i64 (i:Int)),(70,.int .i64 KIQv.length),(69,.sl KAQv KIQv.length none),(10,.int .i64 xi),(9,.int .i64 (j:Int)),(45,.int .i64 (j:Int)),(44,.int .i64 l.length),(43,.sl AL l.length none),(8,.lmap L'.length),(7,.sl AL l.length none),(5,.ptr it 0),(0,dnA suf)]∧L''=L'++[.map (rs4.map afv) ck4]) (CutS (b:=Nat.le_refl _)) ⟨0,rs3,ck3,rfl,Nat.zero_le _,hV0,rfl,rfl⟩ ?_
     rintro _ _ _ ⟨i,rs4,ck4,rfl,hi,hV,rfl,rfl⟩
     by_cases hil:i<KIQv.length
     · have i1:(i:Int)<(KIQv.length:Int):=by omega
       have i2:IntKind.i64.wrap ((i:Int)+1)=(i:Int)+1:=ah (by omega) (by omega)
       have i3:=hkg.out i hil
       have i4:i<KAQv.length:=by omega
       obtain ⟨V,hVe⟩:∃ V,W2Qv++KIQv.take i=V:=⟨_,rfl⟩
       rw [hVe] at hV
       have hVl:V.length≤100000:=by rw [← hVe];simp;omega
       obtain ⟨kiQv,hki⟩:∃ k,KIQv.getD i 0=k:=⟨_,rfl⟩
       rw [hki] at i3
       have hnx:W2Qv++KIQv.take (i+1)=V++List.replicate 1 kiQv:=by
         have:KIQv[i]=kiQv:=by rw [← hki];simp [hil]
         rw [List.take_succ_eq_append_getElem hil,this,← List.append_assoc,hVe];rfl
       have hnx2:=hid hnx
       have hkf2:aT .int (.int .i64 kiQv)=true:=rfl
       clear hnx hki hVe
       rcases hV.out.get kiQv with ⟨g1,g2⟩|⟨n,g0,g1,g2,g3⟩
       · have e2:b7 (.int .i64 kiQv) (rs4.map afv) 0=some none:=by rw [P2,g1];rfl
         have hN:=hid (hnx2.out ▸ hV.out.new g2 1 ck4 (by omega))
         clear g1 g2 kk1 kk2 kk3 kk4 kk5
         refine wk ?_
         exact ay _ _ _ (by omega) (CutL (b:=by simp)) ⟨i+1,_,ck4+1,rfl,hil,hN,rfl,by simp [afv]⟩
       · have e2:b7 (.int .i64 kiQv) (rs4.map afv) 0=some (some (n,.int .i64 (V.count kiQv:Int))):=by rw [P2,g1,Option.map_some,g3,Nat.zero_add]
         have hN:=hid (hnx2.out ▸ hV.out.more g0 g2 1 (rs4.getD n (0,0,0)).2.2)
         have e3:=fun v=>afC rs4 n kiQv v
         have hcb:V.count kiQv≤1000000:=Nat.le_trans List.count_le_length (by omega)
         obtain ⟨cnQv,hcn⟩:∃ z,V.count kiQv=z:=⟨_,rfl⟩
         rw [hcn] at e2 hN hcb
         have w3:IntKind.i64.wrap ((cnQv:Int)+1)=(cnQv:Int)+1:=ah (by omega) (by omega)
         clear g0 g1 g2 g3 hcn kk1 kk2 kk3 kk4 kk5
         refine wk ?_
         exact ay _ _ _ (by omega) (CutL (b:=by simp)) ⟨i+1,_,_,rfl,hil,hN,rfl,rfl⟩
     · have hie:i=KIQv.length:=by omega
       subst hie
       have i1:¬ (KIQv.length:Int)<(KIQv.length:Int):=by omega
       have hnx:Hid (afu rs4 (whW l (ws.take (j+1)))):=hid (by
         rw [htk3.out]
         have:=hV.out
         rwa [List.take_length] at this)
       clear kk1 kk2
       by_cases hj0:j=0
       · subst hj0
         have q1:¬ ((0:Nat):Int) > 0:=by omega
         have q2:¬ (0:Int)<((0:Nat):Int):=by omega
         refine wk ?_
         exact ay _ _ _ (by omega) (CutL (b:=by simp)) ⟨0+1,_,_,rfl,hjl,hnx,rfl,rfl⟩
       · have q1:(j:Int) > 0:=by omega
         have q2:(0:Int)<(j:Int):=by omega
         obtain ⟨p,hp0,kpQv⟩:=htl2.out (fun e=>hj0 (hroot2.out.2 e))
         have kk6:=@hid _ @kpQv
         have q3:¬ p=0:=hp0
         have q4:=hnl
         have q5:(x.nm.length:Int)≤(x.nm.length:Int):=Int.le_refl _
         clear kpQv hp0
         refine wk ?_
         exact ay _ _ _ (by omega) (CutL (b:=by simp)) ⟨j+1,_,_,rfl,hjl,hnx,rfl,rfl⟩
 · have hje:j=l.length:=by omega
   subst hje
   have j1:¬ (l.length:Int)<(l.length:Int):=by omega
   have hWf:afu rs2 (whW l ws):=by
     have:=hW.out
     rwa [← hwl,List.take_length] at this
   have hml:(rs2.map afv).length=l.length:=by
     rw [List.length_map,hWf.len (ids:=ws.map (·.id)) ?_ (afI hp2.out),List.length_map,hwl]
     exact ((hp2.out.map _).nodup_iff).2 (by
       have:=hm.out.ok.inv.ids
       rwa [cE,List.map_map] at this)
   have hcnt:Hid (∀ i,i<ws.length→∃ n,b7 (.int .i64 (ws.getD i default).id) (rs2.map afv) 0=some (some (n,.int .i64 (if i=0 then 2 else 3)))):=hid (fun i hi=>by
     have hxw:ws.getD i default∈ws:=by simp [hi]
     have hr:=hrt2.out i hi
     obtain ⟨x,hx⟩:∃ x,ws.getD i default=x:=⟨_,rfl⟩
     rw [hx] at hxw hr ⊢
     have hc:=afJ hm.out.ok hp2.out (hp2.out.mem_iff.1 hxw)
     rcases hWf.get x.id with ⟨_,g2⟩|⟨n,g0,g1,g2,g3⟩
     · exact absurd ((afI hp2.out x.id).2 (List.mem_map.2 ⟨x,hxw,rfl⟩)) g2
     · refine ⟨n,?_⟩
       rw [P2,g1,Option.map_some,g3,hc,Nat.zero_add]
       by_cases h0:i=0
       · rw [if_pos (hr.1 h0),if_pos h0];rfl
       · rw [if_neg (fun e=>h0 (hr.2 e)),if_neg h0];rfl)
   have kk1:Hid (∀ {X:List Blk} {K:AV→List Blk→Prop},K (.int .i64 (l.length:Nat)) (L'++X)→ab Tryz.prog 23 [.ptr iv 0] (L'++X) K):=@hid _ (by intro X K q;exact Pe (hm.out.code.app X) q)
   clear hWf hW hm hp2 hrt2 hW0 hlc
   refine wk ?_
   refine ax (fun m T'' L''=>∃ i:Nat,m=l.length - i∧i≤l.length∧T''=[(120,.int .i64 (i:Int)),(119,.int .i64 l.length),(118,.sl AL l.length none),(8,.lmap L'.length),(7,.sl AL l.length none),(5,.ptr it 0),(0,dnA suf)]∧L''=L'++[.map (rs2.map afv) ck2]) (CutS (b:=Nat.le_refl _)) ⟨0,rfl,Nat.zero_le _,rfl,rfl⟩ ?_
   rintro _ _ _ ⟨i,rfl,hi,rfl,rfl⟩
   by_cases hil:i<l.length
   · have i1:(i:Int)<(l.length:Int):=by omega
     have i2:IntKind.i64.wrap ((i:Int)+1)=(i:Int)+1:=ah (by omega) (by omega)
     have hiw:i<ws.length:=by omega
     have e1:=hgt.out i hiw
     have hia:i<AL.length:=by omega
     obtain ⟨n,e2⟩:=hcnt.out i hiw
     obtain ⟨xi,hxi⟩:∃ z,(ws.getD i default).id=z:=⟨_,rfl⟩
     rw [hxi] at e1 e2
     have hkf:aT .int (.int .i64 xi)=true:=rfl
     clear hxi
     by_cases hi0:i=0
     · subst hi0
       rw [if_pos rfl] at e2
       have q0:(0:Int)<(l.length:Int):=by omega
       have q1:¬ ((0:Nat):Int) > 0:=by omega
       have q2:¬ (0:Int)<((0:Nat):Int):=by omega
       refine wk ?_
       exact ay _ _ _ (by omega) (CutL (b:=by simp)) ⟨0+1,rfl,hil,rfl,rfl⟩
     · rw [if_neg hi0] at e2
       have q1:(i:Int) > 0:=by omega
       have q2:(0:Int)<(i:Int):=by omega
       have q3:¬ (i:Int)=0:=by omega
       refine wk ?_
       exact ay _ _ _ (by omega) (CutL (b:=by simp)) ⟨i+1,rfl,hil,rfl,rfl⟩
   · have hie:i=l.length:=by omega
     subst hie
     have i1:¬ (l.length:Int)<(l.length:Int):=by omega
     refine wk ?_
     exact ac (L0:=[]) (L2:=_) rfl h.out
end Go.Proofs.YtdhjplmjpjfjnaaGreat.Av
