/- Joined texts of the walk, made small by a program. -/
import Derived.Test.YtdhjplmjpjfjnaaGreatHY4
import Derived.Test.YtdhjplmjpjfjnaaGreatHY2
set_option linter.unusedSimpArgs false
set_option linter.unusedVariables false
namespace Go.Proofs.YtdhjplmjpjfjnaaGreat.Av
open Go
variable {L:List Blk} {K:AV→List Blk→Prop}
set_option maxHeartbeats 8000000
set_option maxRecDepth 100000
theorem OD {rows:List AV} {cap:Option Nat} {i j:Nat} (hn:rows.length≤1100000) {Inv:Nat→List Blk→List Blk→Prop} {L:List Blk} {K:AV→List Blk→Prop}
   (hp:∀ k A Z,Inv k A Z→A.length=L.length∧A[j]?=some (.cells [.sl rows rows.length cap])) (h0:Inv rows.length L [])
   (hs:∀ k A Z X (Q:AV→List Blk→Prop),k<rows.length→X.length=3→Inv (k+1) A Z→(∀ A' Z',Inv k A' Z'→Q (.bool true) (A'++(X++Z')))→EJ Tryz.prog i [rows.getD k .undef] (A++(X++Z)) Q)
   (hK:∀ A Z,Inv 0 A Z→∀ X,X.length=3→Fin L (.tup []) (A++(X++Z)) K) :
   ab Tryz.prog 126 [.yld i,.ptr j 0] L K:=by
 have hL:=(hp _ _ _ h0).2
 have hjl:j<L.length:=(List.getElem?_eq_some_iff.1 hL).1
 have hLx:∀ x:Blk,(L++[x])[j]?=some (.cells [.sl rows rows.length cap]):=fun x=>by rw [List.getElem?_append_left hjl];exact hL
 have kk1:Hid (∀ {L:List Blk} {K:AV→List Blk→Prop},K (.func 149 [.ptr L.length 0]) (L++[.cells [.sl rows rows.length cap]])→ab Tryz.prog 127 [.sl rows rows.length cap] L K):=@hid _ (by intro L K q;exact OE q)
 replace hp:=hid hp
 replace h0:=hid h0
 replace hs:=hid hs
 replace hK:=hid hK
 refine aa vp (by simp [gF]) ?_
 simp only [gF,am]
 refine wk ?_
 refine z7 (f:=149) (caps:=[.ptr (L.length+1) 0]) (fun args w=>rfl) rfl (fun fn ca cb hca hcb hfx hfy hps=>?_)
 have hl:∀ (A:List Blk) (hA:A.length=L.length) (a b c x y:Blk) (Z:List Blk),(A++([a,b,c]++Z))[(L++[x,y]).length]?=some c:=fun A hA a b c x y Z=>by
   rw [List.getElem?_append_right (by simp [hA])];simp [hA]
 have hls:∀ (A:List Blk) (hA:A.length=L.length) (a b c c' x y:Blk) (Z:List Blk),(A++([a,b,c]++Z)).set (L++[x,y]).length c'=A++([a,b,c']++Z):=fun A hA a b c c' x y Z=>by
   rw [List.set_append_right _ _ (by simp [hA]),show (L++[x,y]).length - A.length=2 by simp [hA]];rfl
 refine MC (rows:=rows) (cap:=cap) hn (Inv:=fun k L'=>∃ A Z,L'=A++([.cells [.yld i],.cells [.sl rows rows.length cap],.lrec [(6,.func 149 [.ptr (L.length+1) 0]),(2,.ptr L.length 0),(0,.yld i),(1,.ptr j 0)] 13 fn [7,8] ca cb false]++Z)∧Inv k A Z) ?_ ?_ ?_ ?_
 · rintro k L' ⟨A,Z,rfl,hI⟩
   have hA:=(hp.out _ _ _ hI).1
   refine ⟨?_,by simp [hA]⟩
   rw [List.getElem?_append_right (by omega),hA]
   simp
 · exact ⟨L,[],by simp,h0.out⟩
 · rintro k L' Q hk ⟨A,Z,rfl,hI⟩ hQ
   have hA:=(hp.out _ _ _ hI).1
   refine F5 (hl A hA _ _ _ _ _ _) hca hcb hfx hfy rfl hps ?_
   simp only [xc]
   replace hQ:=hid hQ
   replace hI:=hid hI
   have hset:∀ (A:List Blk) (hA:A.length=L.length) (a b c c':Blk) (Z:List Blk),(A++a::b::c::Z).set (L.length+2) c'=A++a::b::c'::Z:=fun A hA a b c c' Z=>by
     rw [List.set_append_right _ _ (by omega),show L.length+2 - A.length=2 by omega];rfl
   have hget:∀ (A:List Blk) (hA:A.length=L.length) (a b c:Blk) (Z:List Blk),(A++a::b::c::Z)[L.length+2]?=some c:=fun A hA a b c Z=>by
     rw [List.getElem?_append_right (by omega),show L.length+2 - A.length=2 by omega];rfl
   have hg0:∀ (a:Blk) (Z:List Blk),(A++a::Z)[L.length]?=some a:=fun a Z=>by
     rw [List.getElem?_append_right (by omega),show L.length - A.length=0 by omega];rfl
   replace hset:=hid hset
   replace hget:=hid hget
   clear hca hcb hfx hfy hps kk1 hl hls hL hLx
   refine wk ?_
   refine ⟨hget.out _ hA _ _ _ _,?_⟩
   rw [hset.out _ hA]
   refine wk ?_
   rw [En]
   refine hs.out k A Z [.cells [.yld i],.cells [.sl rows rows.length cap],.lrec [(6,.func 149 [.ptr (L.length+1) 0]),(2,.ptr L.length 0),(0,.yld i),(1,.ptr j 0)] 13 fn [7,8] ca cb true] _ hk rfl hI.out fun A' Z' hI'=>?_
   have hA':=(hp.out _ _ _ hI').1
   have hg1:∀ (a:Blk) (Z:List Blk),(A'++a::Z)[L.length]?=some a:=fun a Z=>by
     rw [List.getElem?_append_right (by omega),show L.length - A'.length=0 by omega];rfl
   replace hI':=hid hI'
   clear hg0 hI hA
   refine sk ?_
   refine wk ?_
   refine ⟨rfl,hget.out _ hA' _ _ _ _,?_⟩
   rw [hset.out _ hA']
   exact hQ.out _ ⟨A',Z',rfl,hI'.out⟩
 · rintro L' ⟨A,Z,rfl,hI⟩
   have hA:=(hp.out _ _ _ hI).1
   refine ak ⟨hl A hA _ _ _ _ _ _,?_⟩
   rw [hls A hA]
   clear hl hls hca hcb hfx hfy hps kk1
   exact ⟨.inl rfl,True,[],rfl,trivial,hK.out A Z hI _ rfl⟩
theorem Gp {p:Pth} {k:Nat} (hk:k<p.length):p.reverse.take (p.length - k)=p.reverse.take (p.length - (k+1))++[p.getD k []]:=by
 rw [show p.length - k=p.length - (k+1)+1 by omega,List.take_succ_eq_append_getElem (by rw [List.length_reverse];omega)]
 congr 2
 rw [List.getElem_reverse]
 simp only [List.getD_eq_getElem?_getD]
 rw [List.getElem?_eq_getElem hk]
 simp only [Option.getD_some]
 congr 1;omega
theorem OK {p:Pth} {cap:Option Nat} {j:Nat} (hn:p.length≤1000) {L:List Blk} (hj:L[j]?=some (.cells [.sl (aB p) p.length cap])) {K:AV→List Blk→Prop} (h:K (.sl (aB p.reverse) p.length none) L) :
   ab Tryz.prog 125 [.sl [] 0 (some 0),.func 126 [.ptr j 0]] L K:=by
 replace h:=hid h
 have hjl:j<L.length:=(List.getElem?_eq_some_iff.1 hj).1
 refine aa fB (by simp [bV]) ?_
 simp only [bV,am]
 refine wk ?_
 refine z7 (f:=126) (caps:=[.ptr j 0]) (fun args w=>rfl) rfl (fun fn ca cb hca hcb hfx hfy hps=>?_)
 have hl:∀ (a c x:Blk) (Z:List Blk),(L++[a,c]++Z)[(L++[x]).length]?=some c:=fun a c x Z=>by
   rw [List.append_assoc,List.getElem?_append_right (by simp)];simp
 refine OD (rows:=aB p) (cap:=cap) (by simp;omega) (Inv:=fun k A Z=>∃ v:AV,A=L++[.cells [v],.lrec [(6,.func 126 [.ptr j 0]),(4,.sl [] 0 (some 0)),(2,.ptr L.length 0),(0,.sl [] 0 (some 0)),(1,.func 126 [.ptr j 0])] 13 fn [7] ca cb false]∧((k=p.length∧v=.sl [] 0 (some 0))∨∃ m,v=.lsl (L.length+5+m) 0 (p.length - k) none 1∧Z[m]?=some (.cells (aB (p.reverse.take (p.length - k)))))) ?_ ?_ ?_ ?_
 · rintro k A Z ⟨v,rfl,_⟩
   refine ⟨by simp,?_⟩
   rw [List.getElem?_append_left hjl]
   simpa using hj
 · exact ⟨_,by simp,.inl ⟨by simp,rfl⟩⟩
 · rintro k A Z X Q hk hX ⟨v,rfl,hv⟩ hQ
   rw [List.length_map] at hk
   obtain ⟨x0,x1,x2,rfl⟩:∃ a b c,X=[a,b,c]:=by
     match X,hX with
     | [a,b,c],_=>exact ⟨a,b,c,rfl⟩
   obtain ⟨s,hs⟩:∃ s,p.getD k []=s:=⟨_,rfl⟩
   have er:(aB p).getD k .undef=.str s:=by rw [← hs];simp [hk]
   have etk:=Gp hk
   rw [hs] at etk
   rw [er]
   refine F5 (hl _ _ _ _) hca hcb hfx hfy rfl hps ?_
   simp only [xc]
   replace hQ:=hid hQ
   replace etk:=hid etk
   clear hs er hca hcb hfx hfy hps hl h hj
   have hset:∀ (a c c':Blk) (Z:List Blk),(L++a::c::Z).set (L.length+1) c'=L++([a,c']++Z):=fun a c c' Z=>by
     rw [List.set_append_right _ _ (by omega),show L.length+1 - L.length=1 by omega];rfl
   have hget:∀ (a c:Blk) (Z:List Blk),(L++a::c::Z)[L.length+1]?=some c:=fun a c Z=>by
     rw [List.getElem?_append_right (by omega),show L.length+1 - L.length=1 by omega];rfl
   replace hset:=hid hset
   replace hget:=hid hget
   rcases hv with ⟨hk0,rfl⟩|⟨m,rfl,hZ⟩
   · refine wk ?_
     refine ⟨rfl,hget.out _ _ _,?_⟩
     rw [hset.out]
     have:=hQ.out _ (Z++[.cells [.str s]]) ⟨_,rfl,.inr ⟨Z.length,rfl,by rw [etk.out,show p.length - (k+1)=0 by omega];simp⟩⟩
     rw [show L.length+(Z.length+1+1+1+1+1)=L.length+5+Z.length by omega]
     rw [show p.length - k=1 by omega] at this
     rw [List.append_assoc] at this
     exact this
   · obtain ⟨d,hd⟩:∃ d,p.length - (k+1)=d:=⟨_,rfl⟩
     obtain ⟨C,hC⟩:∃ C,aB (p.reverse.take (p.length - (k+1)))=C:=⟨_,rfl⟩
     have hCl:C.length=d:=by rw [← hC,List.length_map,List.length_take,List.length_reverse];omega
     have hCt:List.take d C=C:=List.take_of_length_le (by omega)
     rw [hC] at hZ
     rw [hd]
     have hm:m<Z.length:=(List.getElem?_eq_some_iff.1 hZ).1
     have hLZ:∀ (a b c e f:Blk),(L++a::b::c::e::f::Z)[L.length+5+m]?=some (.cells C):=fun a b c e f=>by
       rw [List.getElem?_append_right (by omega),show L.length+5+m - L.length=m+1+1+1+1+1 by omega]
       simpa using hZ
     have hd2:d≤1000:=by omega
     have hds:∀ (a b c e f:Blk),(L++a::b::c::e::f::Z).set (L.length+5+m) .dead=L++a::b::c::e::f::Z.set m .dead:=fun a b c e f=>by
       rw [List.set_append_right _ _ (by omega),show L.length+5+m - L.length=m+1+1+1+1+1 by omega];rfl
     refine wk ?_
     refine ⟨rfl,hget.out _ _ _,?_⟩
     rw [hset.out]
     have:=hQ.out _ (Z.set m .dead++[.cells (C++[.str s])]) ⟨_,rfl,.inr ⟨Z.length,rfl,by rw [etk.out,← hC,List.getElem?_append_right (by simp)];simp⟩⟩
     rw [show L.length+(Z.length+1+1+1+1+1)=L.length+5+Z.length by omega]
     rw [show p.length - k=d+1 by omega] at this
     rw [List.append_assoc] at this
     exact this
 · rintro A Z ⟨v,rfl,hv⟩ X hX
   obtain ⟨x0,x1,x2,rfl⟩:∃ a b c,X=[a,b,c]:=by
     match X,hX with
     | [a,b,c],_=>exact ⟨a,b,c,rfl⟩
   have hls:∀ (a c c' x:Blk) (Z:List Blk),(L++[a,c]++Z).set (L++[x]).length c'=L++a::c'::Z:=fun a c c' x Z=>by
     rw [List.append_assoc,List.set_append_right _ _ (by simp),show (L++[x]).length - L.length=1 by simp];rfl
   refine ak ⟨hl _ _ _ _,?_⟩
   rw [hls]
   clear hls hl hca hcb hfx hfy hps hX hj
   rcases hv with ⟨h0,rfl⟩|⟨m,rfl,hZ⟩
   · have hnil:p=[]:=List.length_eq_zero_iff.1 h0.symm
     subst hnil
     clear h0 hn
     refine wk ?_
     refine cz ?_
     rw [show (AV.sl [] 0 (some 0)).frz=.sl (aB ([]:Pth).reverse) ([]:Pth).length none from rfl]
     exact ac rfl h.out
   · rw [Nat.sub_zero,List.take_of_length_le (by rw [List.length_reverse];omega)] at hZ
     rw [Nat.sub_zero]
     obtain ⟨C,hC⟩:∃ C,aB p.reverse=C:=⟨_,rfl⟩
     have hCl:C.length=p.length:=by rw [← hC,List.length_map,List.length_reverse]
     rw [hC] at hZ h
     have hLZ:∀ (a b c e f:Blk),(L++a::b::c::e::f::Z)[L.length+5+m]?=some (.cells C):=fun a b c e f=>by
       rw [List.getElem?_append_right (by omega),show L.length+5+m - L.length=m+1+1+1+1+1 by omega]
       simpa using hZ
     refine wk ?_
     refine vz (i:=L.length+5+m) (l:=C) (hLZ _ _ _ _ _) ?_
     rw [show (AV.lsl (L.length+5+m) 0 p.length none 1).snap (L.length+5+m) C=.sl C p.length none from by simp [AV.snap,← hCl],List.set_append_right _ _ (by omega)]
     exact ac (by rw [← hC];simp only [AV.refs];exact vB _ _) h.out
theorem NN {p:Pth} {cap:Option Nat} {j:Nat} (hn:p.length≤1000) {L:List Blk} (hj:L[j]?=some (.cells [.sl (aB p) p.length cap])) {K:AV→List Blk→Prop} (h:K (.sl (aB p.reverse) p.length none) L) :
   ab Tryz.prog 84 [.func 126 [.ptr j 0]] L K:=by
 have kk1:Hid (∀ {K:AV→List Blk→Prop},K (.sl (aB p.reverse) p.length none) L→ab Tryz.prog 125 [.sl [] 0 (some 0),.func 126 [.ptr j 0]] L K):=@hid _ (by intro K q;exact OK hn hj q)
 replace h:=hid h
 refine aa mG (by simp [ev]) ?_
 simp only [ev,am]
 refine wk ?_
 exact ak h.out
theorem OC {rows:List AV} {n:Nat} {cap:Option Nat} (h:K (.func 126 [.ptr L.length 0]) (L++[.cells [.sl rows n cap]])) :
   ab Tryz.prog 85 [.sl rows n cap] L K:=by
 replace h:=hid h
 refine aa xB (by simp [ju]) ?_
 simp only [ju,am]
 refine wk ?_
 exact ak h.out
theorem Mg {d:List Rdn} {cap:Option Nat} (hd:OkD d) (h:K (.str (aK true d)) L) :
   ab Tryz.prog 83 [.sl (aB (NK d)) d.length cap,.str [44]] L K:=by
 obtain ⟨q1,q2⟩:=Ds hd
 have hrl:∀ r∈d,(bL true r).length≤200000:=fun r hr=>xV (q2 r hr).1 (fun a ha=>((q2 r hr).2 a ha).1) (fun a ha=>((q2 r hr).2 a ha).2)
 have htl:=xQ (by omega) hrl
 have e:aK true d=Lib.join (NK d) [44]:=rfl
 rw [e] at h htl
 rw [show d.length=(NK d).length from (aQ d).symm]
 exact zi (by rw [aQ];omega) (by omega) h
theorem Kb {L:List Blk} {it iv mn mi nb:Nat} {s lst a0 a2 a3:AV} {es:List (AV×AV×Nat)} {rs:List TKy} {ck ci j n1:Nat} {l1:List AV} {c1 cap:Option Nat} {id:Int} {d:List Rdn} (hd:OkD d)
   (hit:L[it]?=some (.cells [.ptr iv 0])) (hiv:L[iv]?=some (.cells [s,.lmap mn,.lmap mi,lst])) (hmn:L[mn]?=some (.map es ck)) (hf:b7 (.int .i64 id) es 0=some (some (j,.ptr nb 0)))
   (hnb:L[nb]?=some (.cells [a0,.sl l1 n1 c1,a2,a3])) (hmi:L[mi]?=some (.map (rs.map kyA) ci)) (hk:b7 (.str (aK true d)) (rs.map kyA) 0=some none) {K:AV→List Blk→Prop}
   (h:K (.tup []) ((L.set nb (.cells [dnA d,.sl (aB (NK d).reverse) d.length none,a2,a3])).set mi (.map ((rs++[(aK true d,id,ci)]).map kyA) (ci+1))++[.cells [.sl (aB (NK d).reverse) d.length none]])) :
   ab Tryz.prog 56 [.ptr it 0,.int .i64 id,.sl (d.map ao) d.length cap] L K:=by
 have hkf:aT .int (.int .i64 id)=true:=rfl
 have hd32:=hd.len
 have hni:nb≠iv:=fun e=>by rw [e,hiv] at hnb;simp at hnb
 have hnt:nb≠it:=fun e=>by rw [e,hit] at hnb;simp at hnb
 have hnm:nb≠mn:=fun e=>by rw [e,hmn] at hnb;simp at hnb
 have hnx:nb≠mi:=fun e=>by rw [e,hmi] at hnb;simp at hnb
 have hnl:nb<L.length:=(List.getElem?_eq_some_iff.1 hnb).1
 have ht1:∀ b,(L.set nb b)[it]?=some (.cells [.ptr iv 0]):=fun b=>by rw [List.getElem?_set_ne hnt];exact hit
 have hv1:∀ b,(L.set nb b)[iv]?=some (.cells [s,.lmap mn,.lmap mi,lst]):=fun b=>by rw [List.getElem?_set_ne hni];exact hiv
 have hm1:∀ b,(L.set nb b)[mi]?=some (.map (rs.map kyA) ci):=fun b=>by rw [List.getElem?_set_ne hnx];exact hmi
 have hn1:∀ b,(L.set nb b)[nb]?=some b:=fun b=>by simp [hnl]
 have hss:∀ b c,(L.set nb b).set nb c=L.set nb c:=fun b c=>List.set_set ..
 have kk1:Hid (∀ {L:List Blk} {c:Option Nat} {K:AV→List Blk→Prop},K (dnA d) L→ab Tryz.prog 47 [.sl (d.map ao) d.length cap,.sl [] 0 c] L K):=@hid _ (by intro L c K q;exact FK hd.m.b.1 hd.m.b.2 q)
 have kk2:Hid (Ctr Tryz.prog 82 [.sl (d.map ao) d.length cap] (.sl (aB (NK d).reverse) d.length none)):=@hid _ (by intro L K q;exact Nv hd q)
 replace h:=hid h
 refine aa xC (by simp [jv]) ?_
 simp only [jv,am]
 refine wk ?_
 have hil:iv<L.length:=(List.getElem?_eq_some_iff.1 hiv).1
 have htl:it<L.length:=(List.getElem?_eq_some_iff.1 hit).1
 have hml:mi<L.length:=(List.getElem?_eq_some_iff.1 hmi).1
 have ht2:∀ b X,(L.set nb b++[X])[it]?=some (.cells [.ptr iv 0]):=fun b X=>by rw [List.getElem?_append_left (by simpa using htl)];exact ht1 b
 have hv2:∀ b X,(L.set nb b++[X])[iv]?=some (.cells [s,.lmap mn,.lmap mi,lst]):=fun b X=>by rw [List.getElem?_append_left (by simpa using hil)];exact hv1 b
 have hm2:∀ b X,(L.set nb b++[X])[mi]?=some (.map (rs.map kyA) ci):=fun b X=>by rw [List.getElem?_append_left (by simpa using hml)];exact hm1 b
 have hx2:∀ b X Y,(L.set nb b++[X]).set mi Y=(L.set nb b).set mi Y++[X]:=fun b X Y=>by rw [List.set_append_left _ _ (by simpa using hml)]
 have kk3:Hid (∀ {K:AV→List Blk→Prop},K (.sl (aB (NK d)) d.length none) ((L.set nb (.cells [dnA d,.sl (aB (NK d).reverse) d.length none,a2,a3]))++[.cells [.sl (aB (NK d).reverse) d.length none]])→ab Tryz.prog 84 [.func 126 [.ptr (L.set nb (.cells [dnA d,.sl (aB (NK d).reverse) d.length none,a2,a3])).length 0]] ((L.set nb (.cells [dnA d,.sl (aB (NK d).reverse) d.length none,a2,a3]))++[.cells [.sl (aB (NK d).reverse) d.length none]]) K):=@hid _ (by
   intro K q
   have hl:(NK d).reverse.length=d.length:=by rw [List.length_reverse,aQ]
   have:=NN (p:=(NK d).reverse) (cap:=none) (j:=(L.set nb (.cells [dnA d,.sl (aB (NK d).reverse) d.length none,a2,a3])).length) (L:=(L.set nb (.cells [dnA d,.sl (aB (NK d).reverse) d.length none,a2,a3]))++[.cells [.sl (aB (NK d).reverse) d.length none]]) (by omega) (by rw [List.getElem?_append_right (Nat.le_refl _),hl];simp) (K:=K)
   rw [List.reverse_reverse,hl] at this
   exact this q)
 have kk4:Hid (Ctr Tryz.prog 83 [.sl (aB (NK d)) d.length none,.str [44]] (.str (aK true d))):=@hid _ (by intro L K q;exact Mg hd q)
 have hkf2:aT .str (.str (aK true d))=true:=rfl
 obtain ⟨tk,htk⟩:∃ tk,aK true d=tk:=⟨_,rfl⟩
 rw [htk] at kk4 hk hkf2 h
 obtain ⟨pp,hpp⟩:∃ pp,aB (NK d).reverse=pp:=⟨_,rfl⟩
 rw [hpp] at kk3 h ⊢
 have hee:(rs++[(tk,id,ci)]).map kyA=rs.map kyA++[(.str tk,.int .i64 id,ci)]:=by rw [List.map_append];rfl
 rw [hee] at h
 clear kk1 kk2 hit hiv hmn hf hnb hmi htk hpp hee
 refine ⟨_,_,(show ab Tryz.prog 85 [.sl pp d.length none] _ _ from OC ⟨rfl,rfl⟩),?_⟩
 refine sk ?_
 refine wk ?_
 exact ⟨.inl rfl,True,[],rfl,trivial,ak h.out⟩
end Go.Proofs.YtdhjplmjpjfjnaaGreat.Av
