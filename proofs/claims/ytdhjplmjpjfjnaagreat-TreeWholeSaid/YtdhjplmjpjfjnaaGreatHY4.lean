/- Joined texts of the walk, made small by a program. -/
import Derived.Test.YtdhjplmjpjfjnaaGreatHTrL
import Derived.Test.YtdhjplmjpjfjnaaGreatHAvRf
set_option linter.unusedSimpArgs false
set_option linter.unusedVariables false
namespace Go.Proofs.YtdhjplmjpjfjnaaGreat.Av
open Go
variable {L:List Blk} {K:AV→List Blk→Prop}
set_option maxHeartbeats 8000000
set_option maxRecDepth 100000
theorem MD {rows:List AV} {cap:Option Nat} {i j:Nat} (hn:rows.length≤1100000) {Inv:Nat→List Blk→Prop} {L:List Blk} {K:AV→List Blk→Prop}
   (hj:∀ k L',Inv k L'→L'[j]?=some (.cells [.sl rows rows.length cap])∧L.length≤L'.length) (h0:Inv rows.length L)
   (hs:∀ k L' (Q:AV→List Blk→Prop),k<rows.length→Inv (k+1) L'→(∀ L'',Inv k L''→Q (.bool true) L'')→EJ Tryz.prog i [.int .i64 (k:Int),rows.getD k .undef] L' Q)
   (hK:∀ L',Inv 0 L'→Fin L (.tup []) L' K) :
   ab Tryz.prog 146 [.yld i,.ptr j 0] L K:=by
 have e0:=(hj _ _ h0).1
 have g0:IntKind.i64.wrap ((rows.length:Int) - 1)=(rows.length:Int) - 1:=ah (by omega) (by omega)
 replace hj:=hid hj
 replace hs:=hid hs
 replace hK:=hid hK
 replace h0:=hid h0
 refine aa fi (by simp [bK]) ?_
 simp only [bK,am]
 refine wk ?_
 refine ax (fun n T' L'=>∃ (k:Nat) (x:Int),n=k∧k≤rows.length∧Hid (Inv k L')∧x=(k:Int) - 1∧T'=[(3,.int .i64 x),(0,.yld i),(1,.ptr j 0)]) (CutS (b:=Nat.le_refl _)) ⟨rows.length,_,rfl,Nat.le_refl _,h0,rfl,rfl⟩ ?_
 rintro k _ L' ⟨_,x,rfl,hk,hI,hx,rfl⟩
 have e1:=(hj.out _ _ hI.out).1
 have e2:=(hj.out _ _ hI.out).2
 cases k with
 | zero =>
   have hx':x=-1:=by omega
   subst hx'
   clear hx
   refine wk ?_
   exact ⟨.inl rfl,True,[],rfl,trivial,hK.out _ hI.out⟩
 | succ k =>
   have hx':x=(k:Int):=by omega
   subst hx'
   clear hx
   have g1:(0:Int)≤(k:Int):=by omega
   have g2:IntKind.i64.wrap ((k:Int) - 1)=(k:Int) - 1:=ah (by omega) (by omega)
   have g3:(k:Int)<(rows.length:Int):=by omega
   have g4:k<rows.length:=hk
   refine wk ?_
   rw [En]
   refine hs.out k L' _ g4 hI.out fun L'' h''=>?_
   have e3:=(hj.out _ _ h'').1
   have e4:=(hj.out _ _ h'').2
   replace h'':=hid h''
   clear hI e1 e2
   refine sk ?_
   refine wk ?_
   exact ay _ _ _ (by omega) (CutL (b:=by omega)) ⟨k,_,rfl,by omega,hid h''.out,rfl,rfl⟩
theorem MC {rows:List AV} {cap:Option Nat} {i j:Nat} (hn:rows.length≤1100000) {Inv:Nat→List Blk→Prop} {L:List Blk} {K:AV→List Blk→Prop}
   (hj:∀ k L',Inv k L'→L'[j]?=some (.cells [.sl rows rows.length cap])∧L.length≤L'.length) (h0:Inv rows.length L)
   (hs:∀ k L' (Q:AV→List Blk→Prop),k<rows.length→Inv (k+1) L'→(∀ L'',Inv k L''→Q (.bool true) L'')→EJ Tryz.prog i [.int .i64 (k:Int),rows.getD k .undef] L' Q)
   (hK:∀ L',Inv 0 L'→Fin L (.tup []) L' K) :
   ab Tryz.prog 149 [.yld i,.ptr j 0] L K:=by
 have e0:=(hj _ _ h0).1
 have g0:IntKind.i64.wrap ((rows.length:Int) - 1)=(rows.length:Int) - 1:=ah (by omega) (by omega)
 replace hj:=hid hj
 replace hs:=hid hs
 replace hK:=hid hK
 replace h0:=hid h0
 refine aa fp (by simp [bS]) ?_
 simp only [bS,am]
 refine wk ?_
 refine ax (fun n T' L'=>∃ (k:Nat) (x:Int),n=k∧k≤rows.length∧Hid (Inv k L')∧x=(k:Int) - 1∧T'=[(3,.int .i64 x),(0,.yld i),(1,.ptr j 0)]) (CutS (b:=Nat.le_refl _)) ⟨rows.length,_,rfl,Nat.le_refl _,h0,rfl,rfl⟩ ?_
 rintro k _ L' ⟨_,x,rfl,hk,hI,hx,rfl⟩
 have e1:=(hj.out _ _ hI.out).1
 have e2:=(hj.out _ _ hI.out).2
 cases k with
 | zero =>
   have hx':x=-1:=by omega
   subst hx'
   clear hx
   refine wk ?_
   exact ⟨.inl rfl,True,[],rfl,trivial,hK.out _ hI.out⟩
 | succ k =>
   have hx':x=(k:Int):=by omega
   subst hx'
   clear hx
   have g1:(0:Int)≤(k:Int):=by omega
   have g2:IntKind.i64.wrap ((k:Int) - 1)=(k:Int) - 1:=ah (by omega) (by omega)
   have g3:(k:Int)<(rows.length:Int):=by omega
   have g4:k<rows.length:=hk
   refine wk ?_
   rw [En]
   refine hs.out k L' _ g4 hI.out fun L'' h''=>?_
   have e3:=(hj.out _ _ h'').1
   have e4:=(hj.out _ _ h'').2
   replace h'':=hid h''
   clear hI e1 e2
   refine sk ?_
   refine wk ?_
   exact ay _ _ _ (by omega) (CutL (b:=by omega)) ⟨k,_,rfl,by omega,hid h''.out,rfl,rfl⟩
theorem OF {rows:List AV} {n:Nat} {cap:Option Nat} (h:K (.func 146 [.ptr L.length 0]) (L++[.cells [.sl rows n cap]])) :
   ab Tryz.prog 121 [.sl rows n cap] L K:=by
 replace h:=hid h
 refine aa fA (by simp [bU]) ?_
 simp only [bU,am]
 refine wk ?_
 exact ak h.out
theorem OE {rows:List AV} {n:Nat} {cap:Option Nat} (h:K (.func 149 [.ptr L.length 0]) (L++[.cells [.sl rows n cap]])) :
   ab Tryz.prog 127 [.sl rows n cap] L K:=by
 replace h:=hid h
 refine aa fI (by simp [bZ]) ?_
 simp only [bZ,am]
 refine wk ?_
 exact ak h.out
theorem OkD.one {d:List Rdn} (h:OkD d) {r:Rdn} (hr:r∈d):OkD [r]:=by
 obtain ⟨a,b,rfl⟩:=List.append_of_mem hr
 have h':OkD (r::b):=OkD.app h
 rw [zc] at h' ⊢
 obtain ⟨h1,h2,h3,h4⟩:=h'
 refine ⟨by simp,fun x hx=>h2 x (by rw [List.mem_singleton.1 hx];simp),?_,Nat.le_trans ?_ h4⟩
 · unfold pI at h3 ⊢
   rw [List.any_cons,Bool.or_eq_false_iff] at h3
   rw [List.any_cons,h3.1];rfl
 · have e1:=jl ([r].map (bL false)) 44
   have e2:=jl ((r::b).map (bL false)) 44
   rw [if_neg (by simp)] at e1 e2
   simp only [List.map_cons,List.map_nil,List.sum_cons,List.sum_nil,List.length_cons,List.length_nil] at e1 e2
   unfold aK
   simp only [List.map_cons,List.map_nil]
   omega
theorem Nv {d:List Rdn} {cap:Option Nat} (hd:OkD d) (h:K (.sl (aB (NK d).reverse) d.length none) L) :
   ab Tryz.prog 82 [.sl (d.map ao) d.length cap] L K:=by
 have hlen:=hd.len
 replace h:=hid h
 have kk1:Hid (∀ {L:List Blk} {K:AV→List Blk→Prop},K (.func 146 [.ptr L.length 0]) (L++[.cells [.sl (d.map ao) d.length cap]])→ab Tryz.prog 121 [.sl (d.map ao) d.length cap] L K):=@hid _ (by intro L K q;exact OF q)
 refine aa D7 (by simp [vn]) ?_
 simp only [vn,am]
 refine wk ?_
 have hl:∀ (a b c x y:Blk) (Z:List Blk),(L++([a,b,c]++Z))[(L++[x,y]).length]?=some c:=fun a b c x y Z=>by
   rw [List.getElem?_append_right (by simp)];simp
 have hrl:(d.map ao).length=d.length:=List.length_map _
 refine z7 (f:=146) (caps:=[.ptr (L.length+1) 0]) (fun args w=>rfl) rfl (fun fn ca cb hca hcb hfx hfy hps=>?_)
 refine MD (rows:=d.map ao) (cap:=cap) (Inv:=fun k L'=>∃ (v:AV) (Z:List Blk),L'=L++([.cells [v],.cells [.sl (d.map ao) d.length cap],.lrec [(9,.func 146 [.ptr (L.length+1) 0]),(3,.ptr L.length 0),(2,.sl [] 0 (some 0)),(0,.sl (d.map ao) d.length cap)] 23 fn [10,11] ca cb false]++Z)∧((k=d.length∧v=.sl [] 0 (some 0))∨∃ m,v=.lsl (L.length+3+m) 0 (d.length - k) none 1∧Z[m]?=some (.cells (aB ((NK d).reverse.take (d.length - k)))))) (by omega) ?_ ?_ ?_ ?_
 · rintro k L' ⟨v,Z,rfl,_⟩
   refine ⟨?_,by simp⟩
   rw [hrl,List.getElem?_append_right (by omega)]
   simp
 · exact ⟨.sl [] 0 (some 0),[],by simp,.inl ⟨hrl,rfl⟩⟩
 · rintro k L' Q hk ⟨v,Z,rfl,hv⟩ hQ
   rw [hrl] at hk
   obtain ⟨r,hr⟩:∃ r,d.getD k []=r:=⟨_,rfl⟩
   have er:(d.map ao).getD k .undef=.sl (aL r) r.length none:=by rw [ij hk,hr]
   have hrm:r∈d:=by rw [← hr];simp [hk]
   have ho1:=hd.one hrm
   have etk:(NK d).reverse.take (d.length - k)=(NK d).reverse.take (d.length - (k+1))++[bL true r]:=by
     rw [show d.length - k=d.length - (k+1)+1 by omega,List.take_succ_eq_append_getElem (by rw [List.length_reverse,aQ];omega)]
     congr 2
     rw [List.getElem_reverse]
     simp only [NK,List.getElem_map,List.length_map]
     congr 1
     rw [← hr]
     simp only [List.getD_eq_getElem?_getD]
     rw [List.getElem?_eq_getElem hk]
     simp only [Option.getD_some]
     congr 1;omega
   obtain ⟨s,hs⟩:∃ s,bL true r=s:=⟨_,rfl⟩
   rw [hs] at etk
   have kk2:Hid (∀ {c:Option Nat} {L:List Blk} {K:AV→List Blk→Prop},K (.tup [.str s,.int .i64 0]) L→ab Tryz.prog 46 [.sl [.sl (aL r) r.length none] 1 c] L K):=@hid _ (by
     intro c L K q
     refine zJ (d:=[r]) ho1.m.b.1 ho1.m.b.2 ?_
     rw [eX ho1,show aK true [r]=s from by simp [aK,Lib.join,hs]]
     exact q)
   rw [er]
   refine F5 (hl _ _ _ _ _ _) hca hcb hfx hfy rfl hps ?_
   simp only [xc]
   replace hQ:=hid hQ
   replace etk:=hid etk
   clear hr hrm ho1 hs er hca hcb hfx hfy hps kk1 hl h
   have hset:∀ (a b c c':Blk) (Z:List Blk),(L++a::b::c::Z).set (L.length+2) c'=L++([a,b,c']++Z):=fun a b c c' Z=>by
     rw [List.set_append_right _ _ (by omega),show L.length+2 - L.length=2 by omega];rfl
   have hget:∀ (a b c:Blk) (Z:List Blk),(L++a::b::c::Z)[L.length+2]?=some c:=fun a b c Z=>by
     rw [List.getElem?_append_right (by omega),show L.length+2 - L.length=2 by omega];rfl
   replace hset:=hid hset
   replace hget:=hid hget
   rcases hv with ⟨hk0,rfl⟩|⟨m,rfl,hZ⟩
   · refine wk ?_
     refine ⟨rfl,hget.out _ _ _ _,?_⟩
     rw [hset.out]
     refine hQ.out _ ⟨_,Z++[.cells [.str s]],rfl,.inr ⟨Z.length,?_,?_⟩⟩
     · rw [show d.length - k=1 by omega,show L.length+(Z.length+1+1+1)=L.length+3+Z.length by omega]
     · rw [etk.out,show d.length - (k+1)=0 by omega];simp
   · obtain ⟨j,hj⟩:∃ j,d.length - (k+1)=j:=⟨_,rfl⟩
     obtain ⟨C,hC⟩:∃ C,aB ((NK d).reverse.take (d.length - (k+1)))=C:=⟨_,rfl⟩
     have hCl:C.length=j:=by rw [← hC,List.length_map,List.length_take,List.length_reverse,aQ];omega
     have hCt:List.take j C=C:=List.take_of_length_le (by omega)
     rw [hC] at hZ
     rw [hj]
     have hm:m<Z.length:=(List.getElem?_eq_some_iff.1 hZ).1
     have hLZ:∀ (a b c:Blk),(L++a::b::c::Z)[L.length+3+m]?=some (.cells C):=fun a b c=>by
       rw [List.getElem?_append_right (by omega),show L.length+3+m - L.length=m+1+1+1 by omega]
       simpa using hZ
     have hj2:j≤32:=by omega
     have hds:∀ (a b c:Blk),(L++a::b::c::Z).set (L.length+3+m) .dead=L++a::b::c::Z.set m .dead:=fun a b c=>by
       rw [List.set_append_right _ _ (by omega),show L.length+3+m - L.length=m+1+1+1 by omega];rfl
     refine wk ?_
     refine ⟨rfl,hget.out _ _ _ _,?_⟩
     rw [hset.out]
     refine hQ.out _ ⟨_,Z.set m .dead++[.cells (C++[.str s])],rfl,.inr ⟨Z.length,?_,?_⟩⟩
     · rw [show d.length - k=j+1 by omega,show L.length+(Z.length+1+1+1)=L.length+3+Z.length by omega]
     · rw [etk.out,← hC,List.getElem?_append_right (by simp)]
       simp
 · have hls:∀ (a b c c' x y:Blk) (Z:List Blk),(L++([a,b,c]++Z)).set (L++[x,y]).length c'=L++a::b::c'::Z:=fun a b c c' x y Z=>by
     rw [List.set_append_right _ _ (by simp),show (L++[x,y]).length - L.length=2 by simp];rfl
   rintro L' ⟨v,Z,rfl,hv⟩
   refine ak ⟨hl _ _ _ _ _ _,?_⟩
   rw [hls]
   clear hls hl hca hcb hfx hfy hps kk1
   rcases hv with ⟨h0,rfl⟩|⟨m,rfl,hZ⟩
   · have hnil:d=[]:=List.length_eq_zero_iff.1 h0.symm
     subst hnil
     clear h0 hlen hrl hd
     refine wk ?_
     refine cz ?_
     rw [show (AV.sl [] 0 (some 0)).frz=.sl (aB (NK []).reverse) ([]:List Rdn).length none from rfl]
     exact ac rfl h.out
   · rw [Nat.sub_zero,List.take_of_length_le (by rw [List.length_reverse,aQ];omega)] at hZ
     rw [Nat.sub_zero]
     obtain ⟨C,hC⟩:∃ C,aB (NK d).reverse=C:=⟨_,rfl⟩
     have hCl:C.length=d.length:=by rw [← hC,List.length_map,List.length_reverse,aQ]
     rw [hC] at hZ h
     have hLZ:∀ (a b c:Blk),(L++a::b::c::Z)[L.length+3+m]?=some (.cells C):=fun a b c=>by
       rw [List.getElem?_append_right (by omega),show L.length+3+m - L.length=m+1+1+1 by omega]
       simpa using hZ
     refine wk ?_
     refine vz (i:=L.length+3+m) (l:=C) (hLZ _ _ _) ?_
     rw [show (AV.lsl (L.length+3+m) 0 d.length none 1).snap (L.length+3+m) C=.sl C d.length none from by simp [AV.snap,← hCl],List.set_append_right _ _ (by omega)]
     exact ac (by rw [← hC];simp only [AV.refs];exact vB _ _) h.out
end Go.Proofs.YtdhjplmjpjfjnaaGreat.Av
