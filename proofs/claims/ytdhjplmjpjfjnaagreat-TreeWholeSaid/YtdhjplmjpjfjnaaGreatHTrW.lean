/- Joined texts of the walk, made small by a program. -/
import Derived.Test.YtdhjplmjpjfjnaaGreatHTrV
import Derived.Test.YtdhjplmjpjfjnaaGreatHY2
import Derived.Test.YtdhjplmjpjfjnaaGreatHShelfT
import Derived.Shelf.SlSortCmp.NoneTotal
set_option linter.unusedSimpArgs false
set_option linter.unusedVariables false
namespace Go.Proofs
open Go.Shelf Go.Sort Go.RowKit
theorem Tryz.sortF {α:Type} [Inhabited α] (enc:α→Value) (h1:OneCell enc) (cf:α→α→Int) (hO:SWO (ltOf cf)) (g:Nat) (cb:Array Value) (blk off cap:Nat) (d:Array α) (w:World)
   (eg:∀ args w,(callFunc g args).run Tryz.prog w=.ok (.enter g args) w) (hcmp:CmpLays1 Tryz.prog g cb enc cf blk off d.size w) (hH:Holds enc w blk off d) (hblk:blk<w.heap.size) (hsz:d.size<4611686018427387904) (hT:∀ x y,(ltOf cf) x y=false→(ltOf cf) y x=false→x=y) :
   Calls Tryz.prog 40 #[.slice (some ⟨blk,off,none⟩) d.size cap,.func (.func g) #[] cb] w fun e w' =>
     e=.returned (.tuple #[])∧∃ n os,w'=sortWorld enc w blk off n (d.toList.mergeSort fun x y => !(ltOf cf) y x).toArray os :=
 Any.slices_SortFunc_total Tryz.srtF enc h1 cf hO g cb blk off cap d w eg hcmp hH hblk hsz hT
theorem Tryz.sortF0 (p:Option Addr) (cap:Nat) (fv:Value) (w:World) :
   Calls Tryz.prog 40 #[.slice p 0 cap,fv] w fun e w'=>e=.returned (.tuple #[])∧w'=w :=
 AnyF.slices_SortFunc_none { Tryz.srtF with } p cap fv w
end Go.Proofs
namespace Go.Proofs.YtdhjplmjpjfjnaaGreat.Av
open Go Go.Sort Go.RowKit
variable {L:List Blk} {K:AV→List Blk→Prop}
set_option maxHeartbeats 8000000
set_option maxRecDepth 100000
theorem Rel.putG {α:Type} [Inhabited α] {enc:α→Value} {f:α→AV} {w0:World} {S0:SB} {E:Env} {L:List Blk} {w:World} (h:Rel w0 S0 E L w) (hf:∀ x,VR E (f x) (enc x)) {i:Nat} {c0:List AV} {d:List α} {c:Loc} (hi:L[i]?=some (.cells c0)) (hc:E.loc i=some c) (hd:d.length=c0.length) (q:Nat) :
   Rel w0 S0 E (L.set i (.cells (d.map f))) (putRow enc (Sort.ahead w q) c.blk c.off d.toArray):=by
 obtain ⟨c',cs,ty,fr,h1,h2,h3,h4,h5,h6⟩:=h.blk i _ hi
 rw [hc] at h1;cases h1
 have hlt:c.blk<w.heap.size:=(Array.getElem?_eq_some_iff.1 h2).1
 have e1:(putRow enc (Sort.ahead w q) c.blk c.off d.toArray).heap[c.blk]?=some (.cells (putCells enc c.off d.toArray cs) ty fr):=by
   simp [putRow,mapBlock,Sort.ahead,Array.getElem?_modify,h2,onCells]
 refine h.turn (k':=.cells (d.map f)) hi rfl hc (by simp) (fun b hb=>?_) rfl rfl rfl ⟨c,_,ty,fr,hc,e1,by simp [putCells,h3],?_,fun j a ha=>?_,h6⟩ (fun _ _ e=>by cases e)
 · have:c.blk≠b:=fun e=>hb e.symm
   simp [putRow,mapBlock,Sort.ahead,Array.getElem?_modify,this]
 · simp only [List.length_map,hd];omega
 · have hj:j<d.length:=by
     have:=(List.getElem?_eq_some_iff.1 ha).1
     simpa using this
   have hcs:c.off+j<cs.size:=by omega
   have ep:(putCells enc c.off d.toArray cs)[c.off+j]?=some (if c.off≤c.off+j∧c.off+j<c.off+d.length then enc (d.toArray[c.off+j - c.off]!) else cs[c.off+j]):=by
     simp [putCells,hcs]
   have ea:a=f d[j]:=by simpa [hj] using ha.symm
   subst ea
   refine ⟨_,ep,?_⟩
   rw [if_pos (by omega),show c.off+j - c.off=j by omega]
   have:=hf d[j]
   simpa [hj] using this
theorem Hr {α:Type} [Inhabited α] {enc:α→Value} {f:α→AV} {w0:World} {S0:SB} {E:Env} {L:List Blk} {w:World} (h:Rel w0 S0 E L w) (hf:∀ x v,VR E (f x) v→v=enc x) {i:Nat} {d:List α} {c:Loc} (hi:L[i]?=some (.cells (d.map f))) (hc:E.loc i=some c) :
   Holds enc w c.blk c.off d.toArray∧c.blk<w.heap.size:=by
 obtain ⟨c',cs,ty,fr,h1,h2,h3,h4,h5,h6⟩:=h.blk i _ hi
 rw [hc] at h1;cases h1
 refine ⟨fun j hj=>?_,(Array.getElem?_eq_some_iff.1 h2).1⟩
 have hj':j<d.length:=by simpa using hj
 obtain ⟨v,g1,g2⟩:=h5 j (f d[j]) (by simp [hj'])
 have g2:=hf _ _ g2
 subst g2
 refine ⟨by simp [World.cell?,h2,g1,hj'],?_⟩
 have h7:=h6 (c.off+j) (by omega) (by simp only [List.length_map] at h4;omega)
 simp only [World.frozen?,h2]
 obtain ⟨f1,f2⟩:=fr
 simp only at h7
 simp only [Bool.and_eq_false_iff,decide_eq_false_iff_not]
 omega
theorem LI {α:Type} [Inhabited α] {enc:α→Value} {w:World} {blk off n:Nat} {dk:Array α} {os:Array Obj} {b:Nat} (hb:b≠blk) (hlt:b<w.heap.size):(sortWorld enc w blk off n dk os).heap[b]?=w.heap[b]?:=by
 have:blk≠b:=fun e=>hb e.symm
 unfold sortWorld grow
 simp only
 rw [Array.getElem?_append_left (by simpa [putRow,mapBlock,Sort.ahead] using hlt)]
 simp [putRow,mapBlock,Sort.ahead,Array.getElem?_modify,this]
theorem fg {w w':World} {b o:Nat} (h:w'.heap[b]?=w.heap[b]?):w'.cell? ⟨b,o,none⟩=w.cell? ⟨b,o,none⟩:=by
 simp only [World.cell?,h]
theorem Rel.at {w0:World} {S0:SB} {E:Env} {L:List Blk} {w:World} (h:Rel w0 S0 E L w) {i j:Nat} {l:List AV} {a:AV} (hi:L[i]?=some (.cells l)) (hj:l[j]?=some a):∃ c v,E.loc i=some c∧w.cell? ⟨c.blk,c.off+j,none⟩=some v∧VR E a v∧c.blk<w.heap.size:=by
 obtain ⟨c,cs,ty,fr,h1,h2,h3,h4,h5,h6⟩:=h.blk i _ hi
 obtain ⟨v,g1,g2⟩:=h5 j a hj
 exact ⟨c,v,h1,by simp [World.cell?,h2,g1],g2,(Array.getElem?_eq_some_iff.1 h2).1⟩
theorem Gb {E:Env}:∀ (p:Pth) (b o:Nat),VRC E (aB p) b o→∀ j,j<p.length→E.mem b (o+j)=some (.string ⟨⟨p.getD j []⟩⟩)
 | [],_,_,_,j,hj=>absurd hj (Nat.not_lt_zero _)
 | s::p,b,o,h,j,hj=>by
   simp only [List.map_cons,VRC,VR] at h
   obtain ⟨⟨x,h1,rfl⟩,h2⟩:=h
   cases j with
   | zero=>simpa using h1
   | succ j =>
     have:=Gb p b (o+1) h2 j (by simpa using hj)
     rw [show o+(j+1)=o+1+j by omega,this];simp
section
variable {suf:List Rdn} {last:Int} {l:List az} {w0:World} {S0:SB} {E:Env} {L:List Blk} {w:World} {iv mn mi:Nat} {nb bn:Int→Nat} {ck ci:Nat} {rs:List TKy}
theorem aR.path (hR:Rel w0 S0 E L w) (hc:aR L iv mn mi nb bn ck ci rs suf last l) {x:az} (hx:x∈l) (hne:x.nm≠[]) :
   ∃ c pb po ca,E.loc (nb x.id)=some c∧c.blk<w.heap.size∧w.cell? ⟨c.blk,c.off+1,none⟩=some (.slice (some ⟨pb,po,none⟩) (pth x).length ca)∧∀ j,j<(pth x).length→E.mem pb (po+j)=some (.string ⟨⟨(pth x).getD j []⟩⟩):=by
 obtain ⟨c,v,h1,h2,h3,h4⟩:=hR.at (hc.nd x hx) (j:=1) rfl
 simp only [VR] at h3
 obtain ⟨p,c',rfl,_,_,h5⟩:=h3
 have hl:(pth x).length=x.nm.length:=by simp [pth,aQ]
 rcases h5 with ⟨h0,_⟩|⟨b,o,rfl,h6⟩
 · exact absurd (List.length_eq_zero_iff.1 h0) hne
 · exact ⟨c,b,o,c',h1,h4,by rw [hl];exact h2,Gb _ _ _ h6⟩
theorem aR.lookup (hR:Rel w0 S0 E L w) (hc:aR L iv mn mi nb bn ck ci rs suf last l) {cm:Loc} (hcm:E.loc mn=some cm) {x:az} (ht:TOk suf last l) (hx:x∈l) {c:Loc} (hcx:E.loc (nb x.id)=some c) (W:World) (hW:W.heap[cm.blk]?=w.heap[cm.blk]?) :
   (Instr.lookup 84 (.map (some cm.blk)) (.int .i64 x.id) false).run Tryz.prog W=.ok (.pointer (some ⟨c.blk,c.off,none⟩)) W:=by
 obtain ⟨c',rs',h1,h2,h3⟩:=hR.blk mn _ hc.n
 rw [hcm] at h1;cases h1
 have hd:Tryz.prog.underlying 84=some (.map 3 83):=by kernel_rfl
 have hkd:eK Tryz.prog 3=some .int:=by kernel_rfl
 have hf:aT .int (.int .i64 x.id)=true:=rfl
 have hk:VR E (.int .i64 x.id) (.int .i64 x.id):=by simp [VR]
 have hck:∀ e,(Instr.checkKey e 10000 3 (.int .i64 x.id)).run Tryz.prog W=.ok () W:=fun e=>im hkd hf hk e
 have hg:(getObj cm.blk).run Tryz.prog W=.ok (.map rs' ck) W:=by simp [getObj,Sem.run,hW,h2]
 rcases hc.node x.id with ⟨e1,_⟩|⟨y,n,e1,hy,hyi,e2,_⟩
 · rw [ht.ent hx] at e1;cases e1
 · obtain ⟨e,q,b,hfk,g2,g3,g4,_⟩:=pM hkd hf hk h3 e2 W
   simp only [VR] at g4
   obtain ⟨c4,k1,k2⟩:=g4
   rw [hcx] at k1;cases k1
   simp [Instr.lookup,run_underlying hd,hg,hck,hfk,k2]
end
abbrev jr (m:List az):List AV:=m.map fun x=>.int .i64 x.id
theorem LK {suf:List Rdn} {last:Int} {l:List az} (ht:TOk suf last l) {m:List az} (hm:∀ x∈m,x∈l) (hne:m≠[]) (hn:m.length≤1100000) {L:List Blk} {iv mn mi:Nat} {nb bn:Int→Nat} {ck ci:Nat} {rs:List TKy} (hc:aR L iv mn mi nb bn ck ci rs suf last l)
   {i bx:Nat} {cp:Option Nat} (hL:L[i]?=some (.cells (jr m))) (hbx:L[bx]?=some (.cells [.ptr iv 0])) {K:AV→List Blk→Prop} (h:K (.tup []) (L.set i (.cells (jr (m.mergeSort leE))))) :
   ab Tryz.prog 40 [.lsl i 0 m.length cp 1,.func 41 [.ptr bx 0]] L K:=fun w0 S0 E w vs hR hv=>by
 simp only [VRL,VR] at hv
 obtain ⟨_,_,rfl,⟨c,rc,d,hci,rfl,hd,hle,_,_⟩,_,_,rfl,⟨_,rfl,_,_,rfl,⟨cb,hcb,rfl⟩,rfl⟩,rfl⟩:=hv
 have hpos:0<m.length:=List.length_pos_iff.2 hne
 have hd':d=c.off:=by have:=hd (by omega);omega
 subst hd'
 obtain ⟨x0,hx0⟩:=List.exists_mem_of_ne_nil _ hne
 have hno:∀ x∈l,x.nm≠[]:=fun x hx e=>ht.inv.ne (dJ hx) (by rw [e];rfl)
 haveI:Inhabited {x:az // x∈l}:=⟨⟨x0,hm x0 hx0⟩⟩
 obtain ⟨ms,rfl⟩:∃ ms:List {x:az // x∈l},m=ms.map (·.1):=⟨m.attach.map fun x=>⟨x.1,hm x.1 x.2⟩,by simp⟩
 obtain ⟨f,hf⟩:∃ f:{x:az // x∈l}→AV,f=fun x=>.int .i64 x.1.id:=⟨_,rfl⟩
 obtain ⟨enc,henc⟩:∃ enc:{x:az // x∈l}→Value,enc=fun x=>.int .i64 x.1.id:=⟨_,rfl⟩
 have e1:∀ s:List {x:az // x∈l},jr (s.map (·.1))=s.map f:=fun s=>by rw [hf];exact List.map_map
 rw [e1] at hL
 have hfv:∀ x v,VR E (f x) v→v=enc x:=fun x v hv=>by rw [hf] at hv;rw [henc];simpa [VR] using hv
 have hfe:∀ x,VR E (f x) (enc x):=fun x=>by rw [hf,henc];simp [VR]
 obtain ⟨hH,hlt⟩:=Hr hR hfv hL hci
 obtain ⟨c1,v1,h1,b1,b2,b3⟩:=hR.at hbx (j:=0) rfl
 rw [hcb] at h1;cases h1
 simp only [VR] at b2
 obtain ⟨c2,hiv,rfl⟩:=b2
 obtain ⟨c2',v2,h2,d1,d2,d3⟩:=hR.at hc.v (j:=1) rfl
 rw [hiv] at h2;cases h2
 simp only [VR] at d2
 obtain ⟨c3,hmn,rfl⟩:=d2
 have hm3:c3.blk<w.heap.size:=by
   obtain ⟨c',rs',g1,g2,_⟩:=hR.blk mn _ hc.n
   rw [hmn] at g1;cases g1
   exact (Array.getElem?_eq_some_iff.1 g2).1
 obtain ⟨y0,ys,hy0⟩:∃ y ys,ms=y::ys:=by
   cases ms with
   | nil=>simp at hpos
   | cons y ys=>exact ⟨y,ys,rfl⟩
 have ap:∀ (j:Nat) (k:Blk) (c':Loc),L[j]?=some k→k.live=true→E.loc j=some c'→k ≠ .cells (ms.map f)→c'.blk≠c.blk:=fun j k c' hj hl hc' hk e=>by
   have:=hR.inj j i k _ c' c hj hl hL rfl hc' hci e
   subst this
   rw [hj] at hL
   exact hk (Option.some.inj hL)
 have hk0:∀ a as',(∀ n,a ≠ .int .i64 n)→Blk.cells (a::as') ≠ .cells (ms.map f):=fun a as' ha e=>by
   rw [hy0,hf] at e
   simp only [List.map_cons,Blk.cells.injEq,List.cons.injEq] at e
   exact ha _ e.1
 have a1:=ap bx _ cb hbx rfl hcb (hk0 _ _ (by simp))
 have a2:=ap iv _ c2 hc.v rfl hiv (hk0 _ _ (by intro n;simp [dnA]))
 have a3:=ap mn _ c3 hc.n rfl hmn (by simp)
 have hown:=(hR.own i _ c hL rfl hci).1
 have hpath:∀ x∈l,∃ c4 pb po ca,E.loc (nb x.id)=some c4∧c4.blk<w.heap.size∧c4.blk≠c.blk∧pb<w.heap.size∧pb≠c.blk∧w.cell? ⟨c4.blk,c4.off+1,none⟩=some (.slice (some ⟨pb,po,none⟩) (pth x).length ca)∧∀ j,j<(pth x).length→w.cell? ⟨pb,po+j,none⟩=some (.string ⟨⟨(pth x).getD j []⟩⟩):=fun x hx=>by
   obtain ⟨c4,pb,po,ca,g1,g2,g3,g4⟩:=hc.path hR hx (hno x hx)
   have hp0:0<(pth x).length:=by
     have:=List.length_pos_iff.2 (hno x hx)
     simp only [pth,List.length_reverse,aQ];exact this
   have g5:=g4 0 hp0
   exact ⟨c4,pb,po,ca,g1,g2,ap (nb x.id) _ c4 (hc.nd x hx) rfl g1 (hk0 _ _ (by intro n;simp [dnA])),hR.mem_lt g5,(fun e=>by rw [e,hown] at g5;cases g5),g3,fun j hj=>hR.mem _ _ _ (g4 j hj)⟩
 have hcmp:CmpLays1 Tryz.prog 41 #[.pointer (some ⟨cb.blk,cb.off+0,none⟩)] enc (fun x y=>cpP (pth x.1) (pth y.1)) c.blk c.off ms.toArray.size w:=fun n os dk hs x y=>by
   obtain ⟨cx,px,qx,kx,x1,x2,x3,x4,x5,x6,x7⟩:=hpath x.1 x.2
   obtain ⟨cy,py,qy,ky,y1,y2,y3,y4,y5,y6,y7⟩:=hpath y.1 y.2
   have hlx:(pth x.1).length≤1100000:=by have:=(ht.ok x.1 x.2).len;simp only [pth,List.length_reverse,aQ];omega
   have hly:(pth y.1).length≤1100000:=by have:=(ht.ok y.1 y.2).len;simp only [pth,List.length_reverse,aQ];omega
   have hh:∀ b,b≠c.blk→b<w.heap.size→(sortWorld enc w c.blk c.off n dk os).heap[b]?=w.heap[b]?:=fun b hb hl=>LI hb hl
   have:=Tryz.scp_c (pth x.1) (pth y.1) x.1.id y.1.id cb.blk (cb.off+0) c2.blk (c2.off+0) c3.blk cx.blk cx.off px qx kx cy.blk cy.off py qy ky (sortWorld enc w c.blk c.off n dk os) hlx hly
     (by rw [fg (hh _ a1 b3)];exact b1) (by rw [fg (hh _ a2 d3)];exact d1)
     (fun q=>hc.lookup hR hmn ht x.2 x1 _ (hh _ a3 hm3)) (fun q=>hc.lookup hR hmn ht y.2 y1 _ (hh _ a3 hm3))
     (by rw [fg (hh _ x3 x2)];exact x6) (by rw [fg (hh _ y3 y2)];exact y6)
     (fun j hj=>by rw [fg (hh _ x5 x4)];exact x7 j hj) (fun j hj=>by rw [fg (hh _ y5 y4)];exact y7 j hj)
   rw [henc] at this ⊢
   exact this.mono fun e w' ⟨k1,q,k2⟩=>⟨k1,q,#[],by rw [k2,grow_empty]⟩
 have hO:SWO (ltOf (fun x y:{x:az // x∈l}=>cpP (pth x.1) (pth y.1))):=Mb (fun x:{x:az // x∈l}=>pth x.1)
 have hcon:=Tryz.sortF enc (fun x=>by rw [henc];rfl) (fun x y=>cpP (pth x.1) (pth y.1)) hO 41 #[.pointer (some ⟨cb.blk,cb.off+0,none⟩)] c.blk c.off rc ms.toArray w (enters_of Tryz.func41 (by kernel_rfl) rfl) hcmp hH hlt (by simp only [List.length_map] at hn;simp only [List.size_toArray];omega) (fun x y h1 h2=>by
   have:=FA (a:=pth x.1) (b:=pth y.1) h1 h2
   exact Subtype.ext (ht.byN x.2 y.2 (Fw this)))
 rw [List.length_map] at *
 refine .inl ⟨fC Tryz.func40 rfl (by kernel_rfl) _ _,hcon.mono ?_⟩
 rintro e w' ⟨rfl,q,os,rfl⟩
 have hp:(ms.mergeSort fun x y => !(ltOf (fun x y:{x:az // x∈l}=>cpP (pth x.1) (pth y.1))) y x).length=(ms.map f).length:=by rw [List.length_mergeSort,List.length_map]
 have r1:=hR.putG hfe hL hci hp q
 have e3:jr ((ms.map (·.1)).mergeSort leE)=(ms.mergeSort fun x y => !(ltOf (fun x y:{x:az // x∈l}=>cpP (pth x.1) (pth y.1))) y x).map f:=by
   rw [← e1]
   congr 1
   refine (List.map_mergeSort fun a _ b _=>?_).symm
   rfl
 rw [e3] at h
 refine ⟨E,_,_,_,rfl,.refl E,h,by simp [VR,VRL],r1.grown ?_⟩
 exact ⟨fun b hb=>Array.getElem?_append_left hb,by simp [sortWorld,grow,putRow,mapBlock,Sort.ahead],rfl,rfl,rfl⟩
theorem Kg {cap:Option Nat} {fv:AV} (h:K (.tup []) L):ab Tryz.prog 40 [.sl [] 0 cap,fv] L K :=
 mM Tryz.func40 rfl (by kernel_rfl) (fun w0 S0 E w vs hR hv=>by
   simp only [VRL,VR] at hv
   obtain ⟨_,_,rfl,⟨p,c,rfl,_⟩,x,_,rfl,_,rfl⟩:=hv
   exact (Tryz.sortF0 p c x w).mono fun e w' ⟨he,hw⟩=>⟨_,he,by simp [VR,VRL],by subst hw;exact EG.refl _⟩) h
end Go.Proofs.YtdhjplmjpjfjnaaGreat.Av
