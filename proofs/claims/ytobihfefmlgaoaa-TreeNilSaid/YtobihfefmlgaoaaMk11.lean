/- Joined texts of the walk, made small by a program. -/
import Derived.Test.YtobihfefmlgaoaaMk10
import Derived.Test.YtobihfefmlgaoaaMk9
import Derived.Shelf.SlSortCmp.NoneTotal
import Derived.Test.YtobihfefmlgaoaaMk4
import Derived.Test.YtobihfefmlgaoaaRows
import Derived.KernelRfl
import Derived.Test.YtobihfefmlgaoaaMk5
import Derived.Test.YtobihfefmlgaoaaMk7
import Derived.Maps.RangeRun
set_option linter.unusedSimpArgs false
set_option linter.unusedVariables false
namespace Go.Proofs
open Go.Shelf Go.Sort Go.RowKit
theorem Try.sortF {α:Type} [Inhabited α] (enc:α->Value) (h1:OneCell enc) (cf:α->α->Int) (hO:SWO (ltOf cf)) (g:Nat) (cb:Array Value) (blk off cap:Nat) (d:Array α) (w:World)
  (eg:∀ args w,(callFunc g args).run Try.prog w=.ok (.enter g args) w) (hcmp:CmpLays1 Try.prog g cb enc cf blk off d.size w) (hH:Holds enc w blk off d) (hblk:blk<w.heap.size) (hsz:d.size<4611686018427387904) (hT:∀ x y,(ltOf cf) x y=false->(ltOf cf) y x=false->x=y) :
  Calls Try.prog 21 #[.slice (some ⟨blk,off,none⟩) d.size cap,.func (.func g) #[] cb] w fun e w' =>
   e=.returned (.tuple #[])/\∃ n os,w'=sortWorld enc w blk off n (d.toList.mergeSort fun x y => !(ltOf cf) y x).toArray os :=
 Any.slices_SortFunc_total Try.srtF enc h1 cf hO g cb blk off cap d w eg hcmp hH hblk hsz hT
theorem Try.sortF0 (p:Option Addr) (cap:Nat) (fv:Value) (w:World) :
  Calls Try.prog 21 #[.slice p 0 cap,fv] w fun e w'=>e=.returned (.tuple #[])/\w'=w :=
 AnyF.slices_SortFunc_none { Try.srtF with } p cap fv w
end Go.Proofs
namespace Go.Proofs.Ytobihfefmlgaoaa.Av
open Go Go.Sort Go.RowKit
variable {L:List Blk} {K:Fw}
set_option maxHeartbeats 8000000
set_option maxRecDepth 100000
theorem Rel.putG {α:Type} [Inhabited α] {enc:α->Value} {f:α->AV} {w0:World} {S0:SB} {E:Env} {L:List Blk} {w:World} (h:Rel w0 S0 E L w) (hf:∀ x,VR E (f x) (enc x)) {i:Nat} {c0:List AV} {d:List α} {c:Loc} (hi:L[i]?=some (.cells c0)) (hc:E.loc i=some c) (hd:d.length=c0.length) (q:Nat) :
  Rel w0 S0 E (L.set i (.cells (d.map f))) (putRow enc (Sort.ahead w q) c.blk c.off d.toArray):=by
 obtain ⟨c',cs,ty,fr,h1,h2,h3,h4,h5,h6⟩:=h.blk i _ hi;rw [hc] at h1;cases h1;have hlt:c.blk<w.heap.size:=(F1.1 h2).1;have e1:(putRow enc (Sort.ahead w q) c.blk c.off d.toArray).heap[c.blk]?=some (.cells (putCells enc c.off d.toArray cs) ty fr):=by
  simp [putRow,mapBlock,Sort.ahead,G3,h2,onCells]
 refine h.turn (k':=.cells (d.map f)) hi rfl hc (by simp) (fun b hb=>?_) rfl rfl rfl ⟨c,_,ty,fr,hc,e1,by simp [putCells,h3],?_,fun j a ha=>?_,h6⟩ (fun _ _ e=>by cases e)
 ·have:c.blk≠b:=fun e=>hb e.symm
  simp [putRow,mapBlock,Sort.ahead,G3,this]
 ·simp only [FS,hd];omega
 ·have hj:j<d.length:=by
   have:=(Fx.1 ha).1;simpa using this
  have hcs:c.off+j<cs.size:=by omega
  have ep:(putCells enc c.off d.toArray cs)[c.off+j]?=some (if c.off<=c.off+j/\c.off+j<c.off+d.length then enc (d.toArray[c.off+j - c.off]!) else cs[c.off+j]):=by
   simp [putCells,hcs]
  have ea:a=f d[j]:=by simpa [hj] using ha.symm
  subst ea;refine ⟨_,ep,?_⟩;rw [if_pos (by omega),show c.off+j - c.off=j by omega];have:=hf d[j];simpa [hj] using this
theorem wR {α:Type} [Inhabited α] {enc:α->Value} {f:α->AV} {w0:World} {S0:SB} {E:Env} {L:List Blk} {w:World} (h:Rel w0 S0 E L w) (hf:∀ x v,VR E (f x) v->v=enc x) {i:Nat} {d:List α} {c:Loc} (hi:L[i]?=some (.cells (d.map f))) (hc:E.loc i=some c) :
  Holds enc w c.blk c.off d.toArray/\c.blk<w.heap.size:=by
 obtain ⟨c',cs,ty,fr,h1,h2,h3,h4,h5,h6⟩:=h.blk i _ hi;rw [hc] at h1;cases h1;refine ⟨fun j hj=>?_,(F1.1 h2).1⟩;have hj':j<d.length:=by simpa using hj
 obtain ⟨v,g1,g2⟩:=h5 j (f d[j]) (by simp [hj']);have g2:=hf _ _ g2;subst g2;refine ⟨by simp [World.cell?,h2,g1,hj'],?_⟩;have h7:=h6 (c.off+j) (by omega) (by simp only [FS] at h4;omega);simp only [World.frozen?,h2];obtain ⟨f1,f2⟩:=fr;simp only at h7;simp only [HU,decide_eq_false_iff_not];omega
theorem CJ {α:Type} [Inhabited α] {enc:α->Value} {w:World} {blk off n:Nat} {dk:Array α} {os:Array Obj} {b:Nat} (hb:b≠blk) (hlt:b<w.heap.size):(sortWorld enc w blk off n dk os).heap[b]?=w.heap[b]?:=by
 have:blk≠b:=fun e=>hb e.symm
 unfold sortWorld grow;simp only;rw [HQ (by simpa [putRow,mapBlock,Sort.ahead] using hlt)];simp [putRow,mapBlock,Sort.ahead,G3,this]
theorem dP {w w':World} {b o:Nat} (h:w'.heap[b]?=w.heap[b]?):w'.cell? ⟨b,o,none⟩=w.cell? ⟨b,o,none⟩:=by
 simp only [World.cell?,h]
theorem Rel.at {w0:World} {S0:SB} {E:Env} {L:List Blk} {w:World} (h:Rel w0 S0 E L w) {i j:Nat} {l:List AV} {a:AV} (hi:L[i]?=some (.cells l)) (hj:l[j]?=some a):∃ c v,E.loc i=some c/\w.cell? ⟨c.blk,c.off+j,none⟩=some v/\VR E a v/\c.blk<w.heap.size:=by
 obtain ⟨c,cs,ty,fr,h1,h2,h3,h4,h5,h6⟩:=h.blk i _ hi;obtain ⟨v,g1,g2⟩:=h5 j a hj;exact ⟨c,v,h1,by simp [World.cell?,h2,g1],g2,(F1.1 h2).1⟩
theorem vv {E:Env}:∀ (p:Pth) (b o:Nat),VRC E (am p) b o->∀ j,j<p.length->E.mem b (o+j)=some (.string ⟨⟨p.getD j []⟩⟩)
 | [],_,_,_,j,hj=>absurd hj (HO _)
 | s::p,b,o,h,j,hj=>by
   simp only [FQ,VRC,VR] at h;obtain ⟨⟨x,h1,rfl⟩,h2⟩:=h;cases j with
   | zero=>simpa using h1
   | succ j =>
     have:=vv p b (o+1) h2 j (by simpa using hj);rw [show o+(j+1)=o+1+j by omega,this];simp
section
variable {suf:List Rdn} {last:Int} {l:List aA} {w0:World} {S0:SB} {E:Env} {L:List Blk} {w:World} {iv mn mi:Nat} {nb bn:Int->Nat} {ck ci:Nat} {rs:List TKy}
theorem a6.path (hR:Rel w0 S0 E L w) (hc:a6 L iv mn mi nb bn ck ci rs suf last l) {x:aA} (hx:x∈l) (hne:x.nm≠[]) :
  ∃ c pb po ca,E.loc (nb x.id)=some c/\c.blk<w.heap.size/\w.cell? ⟨c.blk,c.off+1,none⟩=some (.slice (some ⟨pb,po,none⟩) (pth x).length ca)/\∀ j,j<(pth x).length->E.mem pb (po+j)=some (.string ⟨⟨(pth x).getD j []⟩⟩):=by
 obtain ⟨c,v,h1,h2,h3,h4⟩:=hR.at (hc.nd x hx) (j:=1) rfl;simp only [VR] at h3;obtain ⟨p,c',rfl,_,_,h5⟩:=h3;have hl:(pth x).length=x.nm.length:=by simp [pth,aZ]
 rcases h5 with ⟨h0,_⟩|⟨b,o,rfl,h6⟩
 ·exact absurd (F8.1 h0) hne
 ·exact ⟨c,b,o,c',h1,h4,by rw [hl];exact h2,vv _ _ _ h6⟩
theorem a6.lookup (hR:Rel w0 S0 E L w) (hc:a6 L iv mn mi nb bn ck ci rs suf last l) {cm:Loc} (hcm:E.loc mn=some cm) {x:aA} (ht:TOk suf last l) (hx:x∈l) {c:Loc} (hcx:E.loc (nb x.id)=some c) (W:World) (hW:W.heap[cm.blk]?=w.heap[cm.blk]?) :
  (Instr.lookup 46 (.map (some cm.blk)) (.int .i64 x.id) false).run Try.prog W=.ok (.pointer (some ⟨c.blk,c.off,none⟩)) W:=by
 obtain ⟨c',rs',h1,h2,h3⟩:=hR.blk mn _ hc.n;rw [hcm] at h1;cases h1;have hd:Try.prog.underlying 46=some (.map 3 52):=by kernel_rfl
 have hkd:dx Try.prog 3=some .int:=by kernel_rfl
 have hf:aN .int (.int .i64 x.id)=true:=rfl;have hk:VR E (.int .i64 x.id) (.int .i64 x.id):=by simp [VR]
 have hck:∀ e,(Instr.checkKey e 10000 3 (.int .i64 x.id)).run Try.prog W=.ok () W:=fun e=>fJ hkd hf hk e
 have hg:(getObj cm.blk).run Try.prog W=.ok (.map rs' ck) W:=by simp [getObj,Sem.run,hW,h2]
 rcases hc.node x.id with ⟨e1,_⟩|⟨y,n,e1,hy,hyi,e2,_⟩
 ·rw [ht.ent hx] at e1;cases e1
 ·obtain ⟨e,q,b,hfk,g2,g3,g4,_⟩:=kY hkd hf hk h3 e2 W;simp only [VR] at g4;obtain ⟨c4,k1,k2⟩:=g4;rw [hcx] at k1;cases k1;simp [Instr.lookup,run_underlying hd,hg,hck,hfk,k2]
end
abbrev gr (m:List aA):List AV:=m.map fun x=>.int .i64 x.id
theorem CL {suf:List Rdn} {last:Int} {l:List aA} (ht:TOk suf last l) {m:List aA} (hm:∀ x∈m,x∈l) (hne:m≠[]) (hn:m.length<=1100000) {L:List Blk} {iv mn mi:Nat} {nb bn:Int->Nat} {ck ci:Nat} {rs:List TKy} (hc:a6 L iv mn mi nb bn ck ci rs suf last l)
  {i bx:Nat} {cp:Option Nat} (hL:L[i]?=some (.cells (gr m))) (hbx:L[bx]?=some (.cells [.ptr iv 0])) {K:Fw} (h:K (.tup []) (L.set i (.cells (gr (m.mergeSort leE))))) :
  Fv 21 [.lsl i 0 m.length cp 1,.func 22 [.ptr bx 0]] L K:=fun w0 S0 E w vs hR hv=>by
 simp only [VRL,VR] at hv;obtain ⟨_,_,rfl,⟨c,rc,d,hci,rfl,hd,hle,_,_⟩,_,_,rfl,⟨_,rfl,_,_,rfl,⟨cb,hcb,rfl⟩,rfl⟩,rfl⟩:=hv;have hpos:0<m.length:=Gn.2 hne;have hd':d=c.off:=by have:=hd (by omega);omega
 subst hd';obtain ⟨x0,hx0⟩:=List.exists_mem_of_ne_nil _ hne;have hno:∀ x∈l,x.nm≠[]:=fun x hx e=>ht.inv.ne (dC hx) (by rw [e];rfl)
 haveI:Inhabited {x:aA // x∈l}:=⟨⟨x0,hm x0 hx0⟩⟩
 obtain ⟨ms,rfl⟩:∃ ms:List {x:aA // x∈l},m=ms.map (·.1):=⟨m.attach.map fun x=>⟨x.1,hm x.1 x.2⟩,by simp⟩;obtain ⟨f,hf⟩:∃ f:{x:aA // x∈l}->AV,f=fun x=>.int .i64 x.1.id:=⟨_,rfl⟩
 obtain ⟨enc,henc⟩:∃ enc:{x:aA // x∈l}->Value,enc=fun x=>.int .i64 x.1.id:=⟨_,rfl⟩
 have e1:∀ s:List {x:aA // x∈l},gr (s.map (·.1))=s.map f:=fun s=>by rw [hf];exact FR
 rw [e1] at hL;have hfv:∀ x v,VR E (f x) v->v=enc x:=fun x v hv=>by rw [hf] at hv;rw [henc];simpa [VR] using hv
 have hfe:∀ x,VR E (f x) (enc x):=fun x=>by rw [hf,henc];simp [VR]
 obtain ⟨hH,hlt⟩:=wR hR hfv hL hci;obtain ⟨c1,v1,h1,b1,b2,b3⟩:=hR.at hbx (j:=0) rfl;rw [hcb] at h1;cases h1;simp only [VR] at b2;obtain ⟨c2,hiv,rfl⟩:=b2;obtain ⟨c2',v2,h2,d1,d2,d3⟩:=hR.at hc.v (j:=1) rfl;rw [hiv] at h2;cases h2;simp only [VR] at d2;obtain ⟨c3,hmn,rfl⟩:=d2;have hm3:c3.blk<w.heap.size:=by
  obtain ⟨c',rs',g1,g2,_⟩:=hR.blk mn _ hc.n;rw [hmn] at g1;cases g1;exact (F1.1 g2).1
 obtain ⟨y0,ys,hy0⟩:∃ y ys,ms=y::ys:=by
  cases ms with
  | nil=>simp at hpos
  | cons y ys=>exact ⟨y,ys,rfl⟩
 have ap:∀ (j:Nat) (k:Blk) (c':Loc),L[j]?=some k->k.live=true->E.loc j=some c'->k ≠ .cells (ms.map f)->c'.blk≠c.blk:=fun j k c' hj hl hc' hk e=>by
  have:=hR.inj j i k _ c' c hj hl hL rfl hc' hci e;subst this;rw [hj] at hL;exact hk (Option.some.inj hL)
 have hk0:∀ a as',(∀ n,a ≠ .int .i64 n)->Blk.cells (a::as') ≠ .cells (ms.map f):=fun a as' ha e=>by
  rw [hy0,hf] at e;simp only [FQ,Blk.cells.injEq,Hn] at e;exact ha _ e.1
 have a1:=ap bx _ cb hbx rfl hcb (hk0 _ _ (by simp));have a2:=ap iv _ c2 hc.v rfl hiv (hk0 _ _ (by intro n;simp [dnA]));have a3:=ap mn _ c3 hc.n rfl hmn (by simp);have hown:=(hR.own i _ c hL rfl hci).1;have hpath:∀ x∈l,∃ c4 pb po ca,E.loc (nb x.id)=some c4/\c4.blk<w.heap.size/\c4.blk≠c.blk/\pb<w.heap.size/\pb≠c.blk/\w.cell? ⟨c4.blk,c4.off+1,none⟩=some (.slice (some ⟨pb,po,none⟩) (pth x).length ca)/\∀ j,j<(pth x).length->w.cell? ⟨pb,po+j,none⟩=some (.string ⟨⟨(pth x).getD j []⟩⟩):=fun x hx=>by
  obtain ⟨c4,pb,po,ca,g1,g2,g3,g4⟩:=hc.path hR hx (hno x hx);have hp0:0<(pth x).length:=by
   have:=Gn.2 (hno x hx);simp only [pth,Gx,aZ];exact this
  have g5:=g4 0 hp0;exact ⟨c4,pb,po,ca,g1,g2,ap (nb x.id) _ c4 (hc.nd x hx) rfl g1 (hk0 _ _ (by intro n;simp [dnA])),hR.mem_lt g5,(fun e=>by rw [e,hown] at g5;cases g5),g3,fun j hj=>hR.mem _ _ _ (g4 j hj)⟩
 have hcmp:CmpLays1 Try.prog 22 #[.pointer (some ⟨cb.blk,cb.off+0,none⟩)] enc (fun x y=>cpP (pth x.1) (pth y.1)) c.blk c.off ms.toArray.size w:=fun n os dk hs x y=>by
  obtain ⟨cx,px,qx,kx,x1,x2,x3,x4,x5,x6,x7⟩:=hpath x.1 x.2;obtain ⟨cy,py,qy,ky,y1,y2,y3,y4,y5,y6,y7⟩:=hpath y.1 y.2;have hlx:(pth x.1).length<=1100000:=by have:=(ht.ok x.1 x.2).len;simp only [pth,Gx,aZ];omega
  have hly:(pth y.1).length<=1100000:=by have:=(ht.ok y.1 y.2).len;simp only [pth,Gx,aZ];omega
  have hh:∀ b,b≠c.blk->b<w.heap.size->(sortWorld enc w c.blk c.off n dk os).heap[b]?=w.heap[b]?:=fun b hb hl=>CJ hb hl
  have:=Try.scp_c (pth x.1) (pth y.1) x.1.id y.1.id cb.blk (cb.off+0) c2.blk (c2.off+0) c3.blk cx.blk cx.off px qx kx cy.blk cy.off py qy ky (sortWorld enc w c.blk c.off n dk os) hlx hly
   (by rw [dP (hh _ a1 b3)];exact b1) (by rw [dP (hh _ a2 d3)];exact d1)
   (fun q=>hc.lookup hR hmn ht x.2 x1 _ (hh _ a3 hm3)) (fun q=>hc.lookup hR hmn ht y.2 y1 _ (hh _ a3 hm3))
   (by rw [dP (hh _ x3 x2)];exact x6) (by rw [dP (hh _ y3 y2)];exact y6)
   (fun j hj=>by rw [dP (hh _ x5 x4)];exact x7 j hj) (fun j hj=>by rw [dP (hh _ y5 y4)];exact y7 j hj)
  rw [henc] at this ⊢;exact this.mono fun e w' ⟨k1,q,k2⟩=>⟨k1,q,#[],by rw [k2,grow_empty]⟩
 have hO:SWO (ltOf (fun x y:{x:aA // x∈l}=>cpP (pth x.1) (pth y.1))):=CW (fun x:{x:aA // x∈l}=>pth x.1);have hcon:=Try.sortF enc (fun x=>by rw [henc];rfl) (fun x y=>cpP (pth x.1) (pth y.1)) hO 22 #[.pointer (some ⟨cb.blk,cb.off+0,none⟩)] c.blk c.off rc ms.toArray w (enters_of Try.func22 (by kernel_rfl) rfl) hcmp hH hlt (by simp only [FS] at hn;simp only [List.size_toArray];omega) (fun x y h1 h2=>by
  have:=uP (a:=pth x.1) (b:=pth y.1) h1 h2;exact Subtype.ext (ht.byN x.2 y.2 (uK this)))
 rw [FS] at *;refine .inl ⟨ef Try.func21 rfl (by kernel_rfl) _ _,hcon.mono ?_⟩;rintro e w' ⟨rfl,q,os,rfl⟩;have hp:(ms.mergeSort fun x y => !(ltOf (fun x y:{x:aA // x∈l}=>cpP (pth x.1) (pth y.1))) y x).length=(ms.map f).length:=by rw [Ib,FS]
 have r1:=hR.putG hfe hL hci hp q;have e3:gr ((ms.map (·.1)).mergeSort leE)=(ms.mergeSort fun x y => !(ltOf (fun x y:{x:aA // x∈l}=>cpP (pth x.1) (pth y.1))) y x).map f:=by
  rw [<- e1]
  congr 1
  refine (List.map_mergeSort fun a _ b _=>?_).symm;rfl
 rw [e3] at h;refine ⟨E,_,_,_,rfl,.refl E,h,by simp [VR,VRL],r1.grown ?_⟩;exact ⟨fun b hb=>HQ hb,by simp [sortWorld,grow,putRow,mapBlock,Sort.ahead],rfl,rfl,rfl⟩
theorem zT {cap:Option Nat} {fv:AV} (h:K (.tup []) L):Fv 21 [.sl [] 0 cap,fv] L K :=
 jt Try.func21 rfl (by kernel_rfl) (fun w0 S0 E w vs hR hv=>by
  simp only [VRL,VR] at hv;obtain ⟨_,_,rfl,⟨p,c,rfl,_⟩,x,_,rfl,_,rfl⟩:=hv;exact (Try.sortF0 p c x w).mono fun e w' ⟨he,hw⟩=>⟨_,he,by simp [VR,VRL],by subst hw;exact tY.refl _⟩) h
end Go.Proofs.Ytobihfefmlgaoaa.Av
set_option maxRecDepth 100000
namespace Go.Proofs.Ytobihfefmlgaoaa.Av
open Go
def dm:LSO:=[Ai 2]
def dl:LSO:=[Aa 3 0,o1 4 (.slnil false (tm 3))]
def dj:LSO:=[Ai 2]
def di:LSO:=[o1 5 (.bslice false 1 0 [] []),Aa 6 0,AP 7 5 6,Aa 2 7]
def aW:bJ:=⟨8,(.seq (.sreg dm [])
 (.seq (.seq (.sreg dl AY)
 (.cond (tm 4) (.seq (.sreg dj [])
 .ret)
 .skip))
 (.seq (.sreg di Ba)
 .ret))),[(.tmp 2)]⟩
attribute [push_cast] dm dl dj di
theorem cV:ct Try.prog (fun r i=>if r=3/\i=2 then 2 else 1) 31=some aW.raw:=by kernel_rfl
attribute [push_cast] aW
variable {L:List Blk} {K:Fw}
set_option maxHeartbeats 8000000
set_option maxRecDepth 100000
theorem B5 {xs:List (List UInt8)} {cap:Option Nat} (hn:xs.length<=1100000) (h:K (.sl (xs.map AV.str) xs.length none) L) :
  Fv 31 [.sl (xs.map AV.str) xs.length cap] L K:=by
 replace h:=hid h;by_cases h0:xs=[]
 ·subst h0;refine ac cV (by simp [aW]) ?_;simp only [aW,au]
  repeat' first
   | refine ku ?_
   | (first|refine iC (by kernel_rfl) ?_|refine eX (by kernel_rfl) ?_|refine fa ?_|refine qE ?_|refine lE (fun _=>?_)|refine dU ?_|refine iF ?_)
     refine sm ?_
   | (first|refine iy (by kernel_rfl) ?_|refine fV ?_|refine eZ ?_|refine iE ?_|refine lK (dT ?_))
     refine sl ?_
   | exact lF
   | first|apply lH|apply iz|apply lI|apply iA|apply lJ|apply iB
   | refine fe ?_
   | refine eY ?_
   | first|refine fb rfl ?_|refine fc rfl ?_|refine dA rfl ?_ ?_|refine gp rfl (fun _=>?_) (fun _=>?_)|refine gm rfl (fun _=>?_) (fun _=>?_)
   | ((first|refine dy (fun _=>?_) (fun _=>?_)|refine dN (fun _=>?_) (fun _=>?_))<;>try refine sm ?_)
   | refine And.intro trivial ?_
   | refine And.intro (by omega) ?_
   | refine dV rfl (fun _=>?_) (fun _=>?_)
   | refine And.intro ?_ ?_
  all_goals
   refine cQ ?_;rw [show (AV.sl [] 0 (some 0)).frz=.sl (([]:List (List UInt8)).map AV.str) ([]:List (List UInt8)).length none from rfl];exact aq h.out
 ·have h1:¬ xs.length=0:=fun c=>h0 (F8.1 c)
  have h2:(xs.map AV.str).all AV.one=true:=by rw [FH];intro a ha;obtain ⟨r,_,rfl⟩:=FF.1 ha;rfl
  refine Fu cV ?_;refine nn (i:=L.length) (l:=xs.map AV.str) (by simp) ?_;rw [show (AV.lsl L.length 0 xs.length none 1).snap L.length (xs.map AV.str)=.sl (xs.map AV.str) xs.length none from by simp [AV.snap,Gd],show (L++[Blk.cells (xs.map AV.str)]).set L.length .dead=L++[.dead] by simp];exact ah (by simp only [AV.refs];exact nr _ _) h.out
theorem uJ {l:List Atr} {cap:Option Nat} (hl:l.length<=1100000) (hz:∀ a∈l,a.2.length<=1100000) (h:K (.sl (eW l) l.length none) L) :
  Fv 17 [.sl (eW l) l.length cap] L K:=by
 replace h:=hid h;have kC:Hid (∀ {xs:List (List UInt8)} {c:Option Nat} (hx:xs.length<=1100000) {L:List Blk} {K:Fw},K (.sl (xs.map AV.str) xs.length none) L->Fv 31 [.sl (xs.map AV.str) xs.length c] L K):=@hid _ (by intro xs c hx L K q;exact B5 hx q);refine Fu tv ?_;refine iD (l:=[]) (n:=0) 3 2 rfl (GP 2).symm ?_;refine aM (fun m T' L'=>∃ (k:Nat) (C:List AV) (X:List Blk),m=l.length - k/\k<=l.length/\C=eW (l.take k)/\T'=[(8,.int .i64 (k:Int)),(7,.int .i64 l.length),(6,.sl (eW l) l.length cap),(3,.gsl C k L.length 2)]/\L'=L++(.spare k 2::X)) (CutS (b:=by simp)) ⟨0,[],[],rfl,FW _,rfl,rfl,rfl⟩ ?_;rintro _ _ _ ⟨k,C,X,rfl,hk,hC,rfl,rfl⟩;by_cases hlt:k<l.length
 ·have g1:(k:Int)<(l.length:Int):=by omega
  have g2:=Ft k (by omega);have e3:=yg hlt;have e4:k * 2+2<=(eW l).length:=by rw [Cf];omega
  obtain ⟨⟨nm,vs⟩,ha⟩:∃ a,l.getD k ([],[])=a:=⟨_,rfl⟩;have htk:eW (l.take (k+1))=eW (l.take k)++[.str nm,.sl (vs.map AV.str) vs.length none]:=by
   rw [Gc hlt,Cg,show l[k]=(nm,vs) by rw [<- ha];simp [hlt]];rfl
  have hvs:=hz (nm,vs) (by rw [<- ha];simp [hlt]);simp only at hvs;rw [ha] at e3;simp only [atA] at e3;have e0:AV.frzL (vs.map AV.str)=vs.map AV.str:=wf vs;replace htk:=hid htk;replace hC:=hid hC;have kk1:Hid (∀ {c:Option Nat} {L:List Blk} {K:Fw},K (.sl (vs.map AV.str) vs.length none) L->Fv 31 [.sl (vs.map AV.str) vs.length c] L K):=@hid _ (by intro c L K q;exact kC.out hvs q);clear ha hz kC;refine wk ?_;exact aJ _ _ _ (by omega) (CutL (b:=by simp)) ⟨k+1,_,_,rfl,hlt,by rw [htk.out,hC.out],rfl,rfl⟩
 ·have hke:k=l.length:=by omega
  subst hke;have g1:¬ (l.length:Int)<(l.length:Int):=by omega
  rw [F5] at hC;subst hC;have e0:=wp l;refine wk ?_;refine cQ ?_;simp only [AV.frz,e0];exact ah (by simp only [AV.refs,uE]) h.out
theorem EL {a b:Pth} {na nb:Nat} {ca cb:Option Nat} (hna:na=a.length) (hnb:nb=b.length) (ha:a.length<=1100000) (h:K (.bool (decide (a=b))) L) :
  Fv 20 [.sl (am a) na ca,.sl (am b) nb cb] L K:=by
 subst hna hnb;by_cases hl:a.length=b.length;rotate_left
 ·rw [decide_eq_false (fun c=>hl (by rw [c]))] at h;replace h:=hid h;have g:¬ (a.length:Int)=(b.length:Int):=by omega
  refine Fu cU ?_;exact aq h.out
 obtain ⟨n,hn⟩:=Fq (a.length);have hnb:b.length=n:=by omega
 obtain ⟨R,hR⟩:=Fq (decide (a=b));rw [hR] at h;replace h:=hid h;have hI0:decide (a.drop 0=b.drop 0)=R:=hR;replace hI0:=hid hI0;rw [hn,hnb];rw [hn] at ha;have la:(am a).length=n:=by simp [hn]
 have lb:(am b).length=n:=by simp [hnb]
 replace hn:=hid hn;replace hnb:=hid hnb;clear hl hR;refine Fu cU ?_;refine aM (fun m T' L'=>∃ k:Nat,m=n - k/\k<=n/\Hid (decide (a.drop k=b.drop k)=R)/\T'=[(13,.int .i64 (k:Int)),(12,.int .i64 n),(0,.sl (am a) n ca),(1,.sl (am b) n cb)]/\L=L') (CutS (b:=Fz _)) ⟨0,rfl,FW _,hI0,rfl,rfl⟩ ?_;rintro _ _ L' ⟨k,rfl,hk,hI,rfl,e⟩;subst e;clear hI0;have hI2:=hI.out;by_cases hlt:k<n
 ·have g1:(k:Int)<(n:Int):=by omega
  have g2:=Ft k (by omega);have l1:k<a.length:=by rw [hn.out];exact hlt
  have l2:k<b.length:=by rw [hnb.out];exact hlt
  have e1:(am a).getD k .undef=.str (a.getD k []):=by simp [l1]
  have e2:(am b).getD k .undef=.str (b.getD k []):=by simp [l2]
  have d1:a.drop k=a.getD k []::a.drop (k+1):=by rw [GZ l1];simp [l1]
  have d2:b.drop k=b.getD k []::b.drop (k+1):=by rw [GZ l2];simp [l2]
  rw [d1,d2] at hI2;obtain ⟨x,hx⟩:=Fq (a.getD k []);obtain ⟨y,hy⟩:=Fq (b.getD k []);rw [hx] at e1 hI2;rw [hy] at e2 hI2;by_cases hxy:x=y
  ·subst hxy;have hI3:decide (a.drop (k+1)=b.drop (k+1))=R:=by
    rw [<- hI2];simp
   replace hI3:=hid hI3;clear hI hI2 d1 d2 hx hy l1 l2;refine wk ?_;exact aJ _ _ _ (by omega) (CutL (b:=by simp)) ⟨k+1,rfl,hlt,hid hI3.out,rfl,rfl⟩
  ·have hr:R=false:=by rw [<- hI2];simp [hxy]
   have h':=h.out;rw [hr] at h';replace h':=hid h';clear hI hI2 d1 d2 hx hy l1 l2 hr;refine wk ?_;exact aq h'.out
 ·have hke:k=n:=by omega
  subst hke;have g1:¬ (k:Int)<(k:Int):=by omega
  have hr:R=true:=by
   rw [<- hI2,HI (by rw [hn.out];exact Fz _),HI (by rw [hnb.out];exact Fz _)];rfl
  have h':=h.out;rw [hr] at h';replace h':=hid h';clear hI hI2 hr;refine wk ?_;exact aq h'.out
open Go Go.MapKept
section
variable {P:Program} {w0:World} {S0:SB} {E:Env} {L:List Blk} {w:World} {T:Tm} {a:Act} {N:Nat}
theorem ak.mem1:∀ {es:List (AV×AV×Nat)} {rs:List MapEntry} {f:MapEntry},ak E es rs->f∈rs->∃ e∈es,VR E e.1 f.key/\VR E e.2.1 f.val/\e.2.2=f.born
 | [],rs,f,h,hf=>by simp only [ak] at h;subst h;cases hf
 | (k,x,b)::es,rs,f,h,hf=>by
   obtain ⟨g,t,rfl,g1,g2,g3,g4⟩:=h;rcases FX.1 hf with rfl|hf
   ·exact ⟨_,.head _,g1,g2,g3.symm⟩
   ·obtain ⟨e,he,h1⟩:=ak.mem1 g4 hf;exact ⟨e,.tail _ he,h1⟩
theorem ak.mem2:∀ {es:List (AV×AV×Nat)} {rs:List MapEntry} {e:AV×AV×Nat},ak E es rs->e∈es->∃ f∈rs,e.2.2=f.born
 | [],rs,e,h,he=>by cases he
 | (k,x,b)::es,rs,e,h,he=>by
   obtain ⟨g,t,rfl,g1,g2,g3,g4⟩:=h;rcases FX.1 he with rfl|he
   ·exact ⟨g,.head _,g3.symm⟩
   ·obtain ⟨f,hf,h1⟩:=ak.mem2 g4 he;exact ⟨f,.tail _ hf,h1⟩
theorem tS {t:TypeId} {v:Value} {i j ck since last:Nat} {seen:List Nat} {es:List (AV×AV×Nat)} (hR:Rel w0 S0 E L w) (hi:L[i]?=some (.miter (some j) since seen last)) (hj:L[j]?=some (.map es ck)) (hv:VR E (.ptr i 0) v)
  (hold:∀ e∈es,e.2.2<since) (hsc:since<=last) :
  ∃ r,(match r with|none=>∀ e∈es,seen.contains e.2.2=true|some e=>e∈es/\seen.contains e.2.2=false)/\bm P w0 S0 E (ui L i j since seen ck r) (oB r) w (Instr.next v false t):=by
 simp only [VR] at hv;obtain ⟨c,hc,rfl⟩:=hv;obtain ⟨c',q,h1,h2,h3,d,h4,rfl⟩:=hR.blk i _ hi;rw [hc] at h1;cases h1;obtain ⟨d',rs,g1,g2,g3⟩:=hR.blk j _ hj;rw [h4] at g1;cases g1;have hlt:c.blk<w.heap.size:=(F1.1 h2).1;have hold':∀ x∈rs.toList,x.born<since:=fun x hx=>by
  obtain ⟨e,he,_,_,h⟩:=g3.mem1 hx;rw [<- h];exact hold e he
 rw [h3];rcases run_next_at (P:=P) w t c.blk d.blk since last ⟨seen⟩ rs ck h2 g2 hold' hsc with ⟨h0,hrun⟩|⟨f,hf,w1,hw,hrun⟩
 ·refine ⟨none,fun e he=>?_,.same hR hrun (by simp [oB,VR,VRL])⟩;obtain ⟨f,hf,hb⟩:=g3.mem2 he;rw [hb];have hz:leftOf rs ⟨seen⟩=#[]:=Array.eq_empty_of_size_eq_zero h0;unfold leftOf at hz;rw [Array.filter_eq_empty_iff] at hz;have:=hz f (by simpa using hf);simpa using this
 ·have hf':f∈rs.toList/\seen.contains f.born=false:=by
   simp only [leftOf,Array.toList_filter,F9] at hf;exact ⟨hf.1,by simpa using hf.2⟩
  obtain ⟨e,he,k1,k2,k3⟩:=g3.mem1 hf'.1;have hR1:Rel w0 S0 E L w1:=by
   rcases hw with rfl|rfl
   ·exact hR
   ·exact hR.grown ⟨fun _ _=>rfl,Fz _,rfl,rfl,rfl⟩
  have hlt1:c.blk<w1.heap.size:=by rcases hw with rfl|rfl<;>exact hlt
  have turn:=hR1.turn (w':={ w1 with heap:=w1.heap.setIfInBounds c.blk (.mapIter (some d.blk) since ((⟨seen⟩:Array Nat).push f.born) ck) }) (k':=.miter (some j) since (seen++[f.born]) ck) hi rfl hc (by simp) (fun b hb=>by simp [Hf,Ne.symm hb]) rfl rfl rfl
   ⟨c,some d.blk,hc,by simp [hlt1],h3,d,h4,rfl⟩ (fun _ _ e=>by cases e)
  refine ⟨some e,⟨he,by rw [k3];exact hf'.2⟩,E,.tuple #[.bool true,f.key,f.val],_,hrun,.refl E,?_,?_⟩
  ·simp only [oB,VR,VRL];exact ⟨[.bool true,f.key,f.val],rfl,.bool true,[f.key,f.val],rfl,rfl,f.key,[f.val],rfl,k1,f.val,[],rfl,k2,rfl⟩
  ·simp only [ui,k3];exact turn
def LOp.isNext:LOp->Bool
 | .mnext _=>true
 | _=>false
theorem wZ {own:Nat} {s d:TypeId} {x:Opd} {lo:LOp} (h:lu P own s d x=some lo):lo.isNext=false:=by
 unfold lu at h
 repeat' split at h
 all_goals (first|(cases h;rfl)|cases h)
theorem yN {op:BinOp} {t:TypeId} {x y:Operand} {lo:LOp} (h:oN P op t x y=some lo):lo.isNext=false:=by
 unfold oN at h
 repeat' split at h
 all_goals (first|(cases h;rfl)|cases h)
theorem tP {own:Nat} {b:Builtin} {ts:List TypeId} {xs:List Opd} {lo:LOp} (h:bu P own b ts xs=some lo):lo.isNext=false:=by
 unfold bu at h
 repeat' split at h
 all_goals (first|(cases h;rfl)|cases h|(simp only [FY] at h;obtain ⟨_,_,rfl⟩:=h;rfl))
theorem wY {own:Nat} {op:Op} {y:Opd} (h:d8 P own op=some (.mnext y)):∃ x,op=.next x false/\aR x=some y:=by
 cases op
 case next x isS =>
  simp only [d8] at h;split at h
  ·simp only [FY] at h;obtain ⟨_,_,h⟩:=h;cases h
  ·rename_i hS
   simp only [FY,LOp.mnext.injEq] at h;obtain ⟨_,h1,rfl⟩:=h;exact ⟨x,by rw [show isS=false by simpa using hS],h1⟩
 case makeMap t r =>
  cases r with
  | some x=>simp [d8] at h
  | none =>
    simp only [d8] at h;split at h<;>cases h
 all_goals (exfalso;simp only [d8] at h;try (cases h;done))
 case binOp=>have:=yN h;cases this
 case convert x=>simp only [Hx] at h;obtain ⟨_,_,h⟩:=h;have:=wZ h;cases this
 case call c =>
  split at h<;>try cases h
  split at h<;>try cases h
  ·simp only [FY] at h;obtain ⟨_,_,h⟩:=h;cases h
  ·have:=tP h;cases this
 all_goals
  repeat' split at h
  all_goals (first|cases h|(simp only [FY] at h;obtain ⟨_,_,h⟩:=h;cases h))
theorem Dt {own:Nat->Nat->Nat} {Q:Exit->Tm->List Blk->Prop} {d t i j since last ck:Nat} {rest:List SOp} {mask:List Bool} {seen:List Nat} {es:List (AV×AV×Nat)} (hok:(okS rest && (gds rest).isEmpty)=true) (ht:aj T t=some (.ptr i 0)) (hi:L[i]?=some (.miter (some j) since seen last)) (hj:L[j]?=some (.map es ck))
  (hold:∀ e∈es,e.2.2<since) (hsc:since<=last)
  (h0:(∀ e∈es,seen.contains e.2.2=true)->SL P rest (tJ mask (Q .normal)) ((d,.tup [.bool false])::T) L)
  (h1:∀ e∈es,seen.contains e.2.2=false->SL P rest (tJ mask (Q .normal)) ((d,.tup [.bool true,e.1,e.2.1])::T) (L.set i (.miter (some j) since (seen++[e.2.2]) ck))) :
  AW P N own (.sreg (.op ⟨some d,.mnext (.tmp t),none⟩::rest) mask) Q T L:=fun c hc ro hro w0 S0 E a w hst=>by
 obtain ⟨id,os,rfl,hlo⟩:=oO hc;rw [FG] at hok;refine wpIn_region ?_;generalize List.range os.size=is at hlo ⊢;cases is with
 | nil=>simp [aY,SOp.flatL,SOp.flat] at hlo
 | cons i0 is =>
   simp only [SOp.flatL,SOp.flat,G8,Gs,aY] at hlo;split at hlo<;>try cases hlo
   rename_i lo los' e1 e2
   obtain ⟨o,ho,hop,hdst,hd,hg⟩:=dL e1;simp only at hop hdst hg;rcases hg with ⟨g1,_⟩|⟨_,_,_,_,_,_,g4⟩
   ·simp only [wpOpsIn,ho];rw [if_pos (by simp [Region.wanted,g1])];have hop':d8 P (own id i0) o.op=some (.mnext (.tmp t)):=by
     rcases hq:d8 P (own id i0) o.op with _|x
     ·rw [hq] at hop;cases hop
     ·rw [hq] at hop;simp only [Gf] at hop;rw [hop]
    obtain ⟨x,hx,hlx⟩:=wY hop';obtain ⟨hR,hT,hN,hdf⟩:=hst;have hv:=aa hlx (show evX T (.tmp t)=some (.ptr i 0) from ht) hT;obtain ⟨r,hr,E',v,w',hrun,hle,hvr,hR'⟩:=tS (P:=P) (t:=o.type) hR hi hj hv hold hsc;have hnd:∀ c,o.op ≠ .defer c:=fun c e=>by rw [hx] at e;cases e
    refine ⟨fun _ _=>trivial,?_⟩;rw [Oper.semAt_plain _ _ _ hnd];have hex:(execOp a.eval o).run P w=.ok (.value v) w':=by
     obtain ⟨od,oop,oty,opos,oafter,oguard⟩:=o;simp only at hx hrun;subst hx;show (do pure (Next.value (<- Instr.next (a.eval x) false oty)):Sem Next).run P w=_
     simp [hrun]
    rw [hex,Oper.uponIn_value];have hst':St w0 S0 N E' (bc (some d) (oB r) T) (ui L i j since seen ck r) (a.put o.dst v) w':=⟨hR',by rw [hdst];exact (hT.mono hle).putT (fun k hk=>by rw [hN];exact hd k (by rw [hdst];exact hk)) hvr,by rw [sB];exact hN,by rw [oJ];exact hdf⟩;have hfr:Fr (gds rest) (bc (some d) (oB r) T):=fun k hk=>by
     rw [List.isEmpty_iff.1 hok.2] at hk;cases hk
    have hSL:SL P rest (tJ mask (Q .normal)) (bc (some d) (oB r) T) (ui L i j since seen ck r):=by
     cases r with
     | none=>exact h0 hr
     | some e=>exact h1 e hr.1 hr.2
    refine l9 rest hok.1 e2 hst' hfr hSL fun E'' T' L' a' w'' q2 q3 q4=>⟨w0,S0,E'',sel mask T',L',.refl _ _,hle.trans q2,q3.2,q4.weak (fun t v hv=>nq q3.1 hv) rfl fun _ _ e=>.inr e⟩
   ·cases g4
end
set_option maxHeartbeats 8000000
set_option maxRecDepth 100000
theorem xY {nb bn:Int->Nat}:∀ {l:List aA} {x:aA},(l.map fun x=>bn x.id).Nodup->x∈l->(l.map (dp nb bn)).find? (fun e=>Nat.beq e.2.2 (bn x.id))=some (dp nb bn x)
 | [],x,_,h=>by cases h
 | y::l,x,hn,h=>by
   rw [FQ,Gv] at hn;rcases FX.1 h with h|h
   ·subst h;simp [dp]
   ·have hne:bn y.id≠bn x.id:=fun e=>hn.1 (FF.2 ⟨x,h,e.symm⟩)
    have hbq:Nat.beq (bn y.id) (bn x.id)=false:=by
     cases hh:Nat.beq (bn y.id) (bn x.id) with
     | false=>rfl
     | true=>exact absurd (Nat.eq_of_beq_eq_true hh) hne
    simp only [FQ,Hy];rw [show Nat.beq (dp nb bn y).2.2 (bn x.id)=false from hbq];exact xY hn.2 h
theorem Fj {nb bn:Int->Nat} {l:List aA} {x:aA} {ck:Nat} {seen:List Nat} (hn:(l.map fun x=>bn x.id).Nodup) (hx:x∈l):mat (l.map (dp nb bn)) ck (seen++[bn x.id]) ck=some (dp nb bn x):=by
 simp only [mat,List.getLast?_append,List.getLast?_singleton,Option.some_or,if_true];exact xY hn hx
theorem Bx {β:Type}:∀ (ps l:List β),ps.Nodup->(∀ x∈ps,x∈l)->ps.length<=l.length
 | [],l,_,_=>FW _
 | x::ps,l,hn,hs=>by
   obtain ⟨hx,hn'⟩:=Gv.1 hn;obtain ⟨a,b,rfl⟩:=List.append_of_mem (hs x (by simp));have:=Bx ps (a++b) hn' fun y hy=>by
    have:=hs y (by simp [hy]);rcases FE.1 this with h|h
    ·exact Gt _ h
    ·rcases FX.1 h with h|h
     ·rw [h] at hy;exact absurd hy hx
     ·exact GX _ h
   simp only [FP,FT] at this ⊢;omega
structure tK (bn:Int->Nat) (l:List aA) (ps:List aA) (seen:List Nat):Prop where
 sub:∀ x∈ps,x∈l
 nd:ps.Nodup
 eq:seen=ps.map fun x=>bn x.id
theorem tK.nil {bn:Int->Nat} {l:List aA}:tK bn l [] []:=⟨fun _ h=>absurd h Gw,List.nodup_nil,rfl⟩
theorem tK.next {bn:Int->Nat} {l:List aA} {ps:List aA} {seen:List Nat} (h:tK bn l ps seen) {x:aA} (hx:x∈l) (hs:seen.contains (bn x.id)=false):tK bn l (ps++[x]) (seen++[bn x.id]):=by
 refine ⟨fun y hy=>?_,?_,by rw [h.eq];simp⟩
 ·rcases FE.1 hy with hy|hy
  ·exact h.sub y hy
  ·rw [FM.1 hy];exact hx
 ·rw [Hq];refine ⟨h.nd,by simp,fun a ha b hb e=>?_⟩;rw [FM.1 hb] at e;have:bn x.id∈seen:=by rw [h.eq,<- e];exact FF.2 ⟨a,ha,rfl⟩
  rw [Gh] at hs;simp [this] at hs
theorem tK.all {bn:Int->Nat} {l:List aA} {ps:List aA} {seen:List Nat} (h:tK bn l ps seen) (hl:l.Nodup) (hb:(l.map fun x=>bn x.id).Nodup) (ha:∀ x∈l,seen.contains (bn x.id)=true):ps.Perm l:=by
 refine (List.perm_ext_iff_of_nodup h.nd hl).2 fun x=>⟨h.sub x,fun hx=>?_⟩
 have:=ha x hx;rw [Gh,decide_eq_true_eq,h.eq] at this;obtain ⟨y,hy,e⟩:=FF.1 this;rw [<- cR hb (h.sub y hy) hx e];exact hy
theorem tK.len {bn:Int->Nat} {l:List aA} {ps:List aA} {seen:List Nat} (h:tK bn l ps seen):ps.length<=l.length:=Bx ps l h.nd h.sub
theorem Fh {bn:Int->Nat} {l:List aA} {seen:List Nat} {x:aA} (hx:x∈l) (hs:seen.contains (bn x.id)=false):(l.filter fun r => !(seen++[bn x.id]).contains (bn r.id)).length<(l.filter fun r => !seen.contains (bn r.id)).length:=by
 have e:(l.filter fun r => !(seen++[bn x.id]).contains (bn r.id))=(l.filter fun r => !seen.contains (bn r.id)).filter (fun r=>decide (bn r.id≠bn x.id)):=by
  rw [List.filter_filter];refine List.filter_congr fun r _=>?_
  by_cases h:bn r.id=bn x.id<;>simp [h]
 rw [e];refine List.length_filter_lt_length_iff_exists.2 ⟨x,F9.2 ⟨hx,by rw [hs];rfl⟩,by simp⟩
theorem TOk.nodup {suf:List Rdn} {last:Int} {l:List aA} (h:TOk suf last l):l.Nodup:=by
 have hn:=h.inv.ids;unfold b9 at hn;rw [FR] at hn;exact lp hn
theorem vF (q:Nat->Bool):∀ l:List aA,AV.refsL q (gr l)=true
 | []=>rfl
 | x::l=>by
   show (AV.refs q _ && AV.refsL q _)=true
   rw [vF q l];rfl
theorem sh {suf:List Rdn} {last:Int} {l:List aA} (ht:TOk suf last l) (hln:l.length<=1100000) {L:List Blk} {iv mn mi:Nat} {nb bn:Int->Nat} {ck ci:Nat} {rs:List TKy} (hc:a6 L iv mn mi nb bn ck ci rs suf last l) {id s:Int} {K:Fw} (h:K (.sl ((scT l id s).map (AV.int .i64)) (scT l id s).length none) L) :
  Fv 11 [.ptr iv 0,.int .i64 id,.int .i64 s] L K:=by
 have hv:=hc.v;have hn:=hc.n;have hivl:iv<L.length:=(Fx.1 hv).1;have hmnl:mn<L.length:=(Fx.1 hn).1;have av:∀ X:List Blk,(L++X)[iv]?=some (.cells [dnA suf,.lmap mn,.lmap mi,.int .i64 last]):=fun X=>by rw [FC hivl];exact hv
 have an:∀ X:List Blk,(L++X)[mn]?=some (.map (l.map (dp nb bn)) ck):=fun X=>by rw [FC hmnl];exact hn
 have hkf:aN .int (.int .i64 id)=true:=rfl;unfold scT at h;rcases hc.node id with ⟨e1,e2⟩|⟨a,j,e1,ha,hai,e2,e3⟩
 ·rw [e1] at h;replace h:=hid h;clear hc e1 hv hn;refine Fu bD ?_;refine cQ ?_;rw [show (AV.sl [] 0 (some 0)).frz=.sl (([]:List Int).map (AV.int .i64)) ([]:List Int).length none from rfl];exact ah rfl h.out
 ·rw [e1] at h;simp only at h;have hnl:nb id<L.length:=(Fx.1 e3).1;unfold jo at e3;have ad:∀ X:List Blk,(L++X)[nb id]?=some (.cells [dnA a.nm,.sl (am (pth a)) a.nm.length none,atR a.av,.int .i64 (aG (b9 l) (NK a.nm):Nat)]):=fun X=>by rw [FC hnl];exact e3
  by_cases hs:s<0\/2<s
  ·rw [if_pos hs] at h;replace h:=hid h;clear hc e1 hv hn e3;by_cases c1:s<0
   ·refine Fu bD ?_;refine cQ ?_;rw [show (AV.sl [] 0 (some 0)).frz=.sl (([]:List Int).map (AV.int .i64)) ([]:List Int).length none from rfl];exact ah rfl h.out
   ·have c2:2<s:=by omega
    have c3:s > 2:=c2;refine Fu bD ?_;refine cQ ?_;rw [show (AV.sl [] 0 (some 0)).frz=.sl (([]:List Int).map (AV.int .i64)) ([]:List Int).length none from rfl];exact ah rfl h.out
  ·rw [if_neg hs] at h;have c1:¬ s<0:=by omega
   have c2:¬ 2<s:=by omega
   have c3:¬ s > 2:=c2;replace h:=hid h;replace hc:=hid hc;replace ht:=hid ht;clear hv hn e3 hs;refine Fu bD ?_;refine aM (fun n T' L'=>∃ (seen:List Nat) (ps:List aA) (v:AV) (Z:List Blk),n=(l.filter fun r => !seen.contains (bn r.id)).length/\Hid (tK bn l ps seen)/\Hid ((ps.filter (dE a s)=[]/\v=.sl [] 0 (some 0))\/∃ m,ps.filter (dE a s)≠[]/\v=.lsl (L.length+2+m) 0 (ps.filter (dE a s)).length none 1/\Z[m]?=some (.cells (gr (ps.filter (dE a s)))))/\T'=[(44,.ptr (L.length+1) 0),(8,v),(7,.sl (am (pth a)) a.nm.length none),(3,.ptr L.length 0),(0,.ptr iv 0),(1,.int .i64 id),(2,.int .i64 s)]/\L'=L++([.cells [.ptr iv 0],.miter (some mn) ck seen ck]++Z)) (CutS (b:=by simp)) ⟨[],[],_,[],rfl,hid tK.nil,hid (.inl ⟨rfl,rfl⟩),rfl,rfl⟩ ?_;rintro _ _ _ ⟨seen,ps,v,Z,rfl,hcm,hv,rfl,rfl⟩;have i1:∀ (a b:Blk) (Z:List Blk),(L++([a,b]++Z))[L.length+1]?=some b:=fun a b Z=>by rw [FJ (by omega)];simp
   have i3:∀ (a b c:Blk) (Z:List Blk),(L++([a,b]++Z)).set (L.length+1) c=L++([a,c]++Z):=fun a b c Z=>by rw [Gb _ _ (by omega),show L.length+1 - L.length=1 by omega];rfl
   refine ku ?_;refine Dt (i:=L.length+1) (j:=mn) (es:=l.map (dp nb bn)) (by kernel_rfl) rfl (i1 _ _ _) (an _) (fun e he=>?_) (Fz _) (fun hall=>?_) (fun e he hs=>?_)
   ·obtain ⟨p,hp,rfl⟩:=FF.1 he;exact hc.out.blt p hp
   ·have hperm:=hcm.out.all ht.out.nodup hc.out.bnd fun x hx=>hall (dp nb bn x) (FF.2 ⟨x,hx,rfl⟩)
    have hsrt:=ht.out.srt a s (hperm.filter (dE a s));have hml:=F3 (Hr (dE a s) ps) hcm.out.len;have hmm:∀ x∈ps.filter (dE a s),x∈l:=fun x hx=>hcm.out.sub x (F9.1 hx).1
    obtain ⟨m0,hm0⟩:=Fq (ps.filter (dE a s));have hv':=hv.out;rw [hm0] at hv' hsrt hml hmm;rw [<- hsrt] at h;replace hmm:=hid hmm;replace hml:=hid hml;clear hall hperm hsrt hcm hv hm0;refine sk ?_;rcases hv' with ⟨rfl,rfl⟩|⟨m,hne,rfl,hZ⟩
    ·have kk1:Hid (∀ {cap:Option Nat} {fv:AV} {L:List Blk} {K:Fw},K (.tup []) L->Fv 21 [.sl [] 0 cap,fv] L K):=@hid _ (by intro cap fv L K q;exact zT q);clear hmm hml;refine wk ?_;refine cQ ?_;have h':=h.out;rw [List.mergeSort_nil] at h';exact ah rfl h'
    ·have hid':∀ (b c:Blk),(L++b::c::Z)[L.length+2+m]?=some (.cells (gr m0)):=fun b c=>by
      rw [FJ (by omega),show L.length+2+m - L.length=m+1+1 by omega];simpa using hZ
     have hst:∀ (b c d:Blk),(L++b::c::Z).set (L.length+2+m) d=L++b::c::Z.set m d:=fun b c d=>by
      rw [Gb _ _ (by omega),show L.length+2+m - L.length=m+1+1 by omega];rfl
     have hm:m<Z.length:=(Fx.1 hZ).1;obtain ⟨sr,hsr⟩:=Fq (m0.mergeSort leE);have hsl:sr.length=m0.length:=by rw [<- hsr,Ib]
     have kk1:Hid (∀ {K:Fw},K (.tup []) (L ++ .cells [.ptr iv 0] :: .miter (some mn) ck seen ck::Z.set m (.cells (gr sr)))->Fv 21 [.lsl (L.length+2+m) 0 m0.length none 1,.func 22 [.ptr L.length 0]] (L ++ .cells [.ptr iv 0] :: .miter (some mn) ck seen ck::Z) K):=@hid _ (by
      intro K q;refine CL ht.out hmm.out hne (F3 hml.out hln) (hc.out.app _) (hid' _ _) (by rw [FJ (Fz _)];simp) ?_;rw [hst,hsr];exact q)
     rw [hsr] at h;have e4:(sr.map fun x=>x.id).map (AV.int .i64)=gr sr:=by rw [FR];rfl
     rw [e4,FS] at h;clear hmm hml hne hsr hst hid' hZ;refine wk ?_;refine nn (i:=L.length+2+m) (l:=gr sr) ?_ ?_
     ·rw [FJ (by omega),show L.length+2+m - L.length=m+1+1 by omega];simp [hm]
     rw [show (AV.lsl (L.length+2+m) 0 m0.length none 1).snap (L.length+2+m) (gr sr)=.sl (gr sr) sr.length none from by simp [AV.snap,<- hsl,Gd],Gb _ _ (by omega)];refine ah ?_ h.out;simp only [AV.refs];exact vF _ sr
   ·obtain ⟨x,hx,rfl⟩:=FF.1 he;clear he;have hs':seen.contains (bn x.id)=false:=hs;have hlt:=hid (Fh hx hs');have hcm':=hid (hcm.out.next hx hs');have hmat:=Fj (nb:=nb) (ck:=ck) (seen:=seen) hc.out.bnd hx;have hxn:=hc.out.nd x hx;have hxl:nb x.id<L.length:=(Fx.1 hxn).1;unfold jo at hxn;have axd:∀ X:List Blk,(L++X)[nb x.id]?=some (.cells [dnA x.nm,.sl (am (pth x)) x.nm.length none,atR x.av,.int .i64 (aG (b9 l) (NK x.nm):Nat)]):=fun X=>by rw [FC hxl];exact hxn
    have hin:=BP ht.out ha hx s;have hpl:(pth x).length=x.nm.length:=by simp [pth,aZ]
    have hpa:(pth a).length=a.nm.length:=by simp [pth,aZ]
    have hfil:(ps++[x]).filter (dE a s)=ps.filter (dE a s)++(if dE a s x=true then [x] else []):=by
     rw [List.filter_append];congr 1;by_cases c:dE a s x=true<;>simp [c]
    have hx32:=(ht.out.ok x hx).len;have ha32:=(ht.out.ok a ha).len;have hml:=F3 (Hr (dE a s) ps) hcm.out.len;rw [hpl,hpa] at hin;simp only [dp] at *;clear hs hs' hcm;simp only [i3];have w1:IntKind.i64.wrap ((x.nm.length:Int) - (a.nm.length:Int))=(x.nm.length:Int) - (a.nm.length:Int):=aw (by omega) (by omega);have kE:Hid (∀ {ca cb:Option Nat} {L:List Blk} {K:Fw},a.nm.length<=x.nm.length->K (.bool (decide (List.take a.nm.length (pth x)=pth a))) L->Fv 20 [.sl (List.take a.nm.length (am (pth x))) a.nm.length ca,.sl (am (pth a)) a.nm.length cb] L K):=@hid _ (by
     intro ca cb L K hle q;rw [<- List.map_take];exact EL (a:=(pth x).take a.nm.length) (b:=pth a) (by rw [GC,hpl];omega) hpa.symm (by rw [GC,hpl];omega) q)
    obtain ⟨u,hu⟩:=Fq (decide (List.take a.nm.length (pth x)=pth a));rw [hu] at kE hin;obtain ⟨xi,hxi⟩:=Fq (x.id);have hfT:dE a s x=true->(ps++[x]).filter (dE a s)=ps.filter (dE a s)++[x]:=fun e=>by rw [hfil,if_pos e]
    have hfF:dE a s x=false->(ps++[x]).filter (dE a s)=ps.filter (dE a s):=fun e=>by rw [hfil,if_neg (by rw [e];decide)];simp
    obtain ⟨m0,hm0⟩:=Fq (ps.filter (dE a s));rw [hm0] at hv hfT hfF hml;obtain ⟨nx,hnx⟩:=Fq (x.nm.length);obtain ⟨na,hna⟩:=Fq (a.nm.length);rw [hxi] at hmat axd;rw [hnx,hna] at kE hin w1;rw [hnx] at axd hx32;rw [hna] at ad ha32;obtain ⟨xp,hxp⟩:=Fq (am (pth x));rw [hxp] at kE axd;have hxpl:xp.length=nx:=by rw [<- hxp,FS,hpl,hnx]
    have out:dE a s x=false->Hid ((m0=[]/\v=.sl [] 0 (some 0))\/∃ m,m0≠[]/\v=.lsl (L.length+2+m) 0 m0.length none 1/\Z[m]?=some (.cells (gr m0)))->Hid (((ps++[x]).filter (dE a s)=[]/\v=.sl [] 0 (some 0))\/∃ m,(ps++[x]).filter (dE a s)≠[]/\v=.lsl (L.length+2+m) 0 ((ps++[x]).filter (dE a s)).length none 1/\Z[m]?=some (.cells (gr ((ps++[x]).filter (dE a s))))):=fun e hv=>by rw [hfF e];exact hv
    rw [hna,hxi];rw [hxi] at hlt hcm';have hinF:=fun (e:dE a s x=false)=>out e hv
    clear out;replace hinF:=hid hinF;replace hin:=hid hin;have hids:=hid (show gr [x]=[.int .i64 xi] from by rw [<- hxi];rfl);clear hfil hxn hx hfF hpl hpa hxi hnx hna hu hxp hm0 ha hai e1;by_cases d1:na<=nx;rotate_left
    ·have g1:¬ (0:Int)<=(nx:Int) - (na:Int):=by omega
     have g2:¬ (nx:Int) - (na:Int) ≥ 0:=g1;have out:=hinF.out (by rw [hin.out,decide_eq_false g1];rfl);clear kE hin hinF hv hfT;refine sk ?_;refine wk ?_;refine aJ _ _ _ hlt.out (CutS (b:=by simp)) ⟨_,ps++[x],_,_,rfl,hid hcm'.out,out.out,rfl,rfl⟩
    have kk1:=@hid _ (fun {ca cb:Option Nat} {L:List Blk} {K:Fw}=>kE.out (ca:=ca) (cb:=cb) (L:=L) (K:=K) d1);have g1:(0:Int)<=(nx:Int) - (na:Int):=by omega
    have g2:(nx:Int) - (na:Int) ≥ 0:=g1;have g3:(na:Int)<=(nx:Int):=by omega
    have hin:=hin.out;rw [decide_eq_true g1,GY] at hin;replace hin:=hid hin;clear kE;cases u with
    | false =>
      have out:=hinF.out (by rw [hin.out];rfl);clear hin hinF hv hfT;refine sk ?_;refine wk ?_;refine aJ _ _ _ hlt.out (CutS (b:=by simp)) ⟨_,ps++[x],_,_,rfl,hid hcm'.out,out.out,rfl,rfl⟩
    | true =>
      have hin:=hin.out;rw [GY] at hin;replace hin:=hid hin;by_cases d2:s=2
      ·subst d2;have hfl:=hid (hfT (by rw [hin.out];rfl));clear hin hinF hfT;rcases hv.out with ⟨hm0,rfl⟩|⟨m,hne,rfl,hZ⟩
       ·subst hm0;clear hv;refine sk ?_;refine wk ?_;refine aJ _ _ _ hlt.out (CutS (b:=by simp)) ⟨_,ps++[x],_,Z++[.cells [.int .i64 xi]],rfl,hid hcm'.out,hid (.inr ⟨Z.length,by rw [hfl.out];simp,?_,by rw [hfl.out,Gs,hids.out];simp⟩),rfl,by simp⟩;rw [hfl.out,show L.length+(Z.length+1+1)=L.length+2+Z.length by omega];rfl
       ·have hm:m<Z.length:=(Fx.1 hZ).1;have hLZ:∀ (a b:Blk),(L++a::b::Z)[L.length+2+m]?=some (.cells (gr m0)):=fun a b=>by
         rw [FJ (by omega),show L.length+2+m - L.length=m+1+1 by omega];simpa using hZ
        have hds:∀ (a b:Blk),(L++a::b::Z).set (L.length+2+m) .dead=L++a::b::Z.set m .dead:=fun a b=>by
         rw [Gb _ _ (by omega),show L.length+2+m - L.length=m+1+1 by omega];rfl
        obtain ⟨C,hC⟩:=Fq (gr m0);obtain ⟨d,hd⟩:=Fq (m0.length);have hCl:C.length=d:=by rw [<- hC,FS,hd]
        have hCt:List.take d C=C:=Gd (by omega);have hd2:d<=1100000:=by omega
        rw [hC] at hLZ;rw [hd];have hC2:=hid hC;have hd3:=hid hd;clear hv hZ hC hd hml;refine sk ?_;refine wk ?_;refine aJ _ _ _ hlt.out (CutS (b:=by simp)) ⟨_,ps++[x],_,Z.set m .dead++[.cells (C++[.int .i64 xi])],rfl,hid hcm'.out,hid (.inr ⟨Z.length,by rw [hfl.out];simp,?_,by rw [hfl.out,show gr (m0++[x])=gr m0++gr [x] from FZ,hC2.out,hids.out,FJ (by simp)];simp⟩),rfl,by simp⟩;rw [hfl.out,show L.length+(Z.length+1+1)=L.length+2+Z.length by omega,FP,hd3.out];rfl
      ·by_cases d3:(nx:Int) - (na:Int)=s
       ·have hfl:=hid (hfT (by rw [hin.out];rw [decide_eq_true d3,Bool.or_true]));subst d3;clear hin hinF hfT;rcases hv.out with ⟨hm0,rfl⟩|⟨m,hne,rfl,hZ⟩
        ·subst hm0;clear hv;refine sk ?_;refine wk ?_;refine aJ _ _ _ hlt.out (CutS (b:=by simp)) ⟨_,ps++[x],_,Z++[.cells [.int .i64 xi]],rfl,hid hcm'.out,hid (.inr ⟨Z.length,by rw [hfl.out];simp,?_,by rw [hfl.out,Gs,hids.out];simp⟩),rfl,by simp⟩;rw [hfl.out,show L.length+(Z.length+1+1)=L.length+2+Z.length by omega];rfl
        ·have hm:m<Z.length:=(Fx.1 hZ).1;have hLZ:∀ (a b:Blk),(L++a::b::Z)[L.length+2+m]?=some (.cells (gr m0)):=fun a b=>by
          rw [FJ (by omega),show L.length+2+m - L.length=m+1+1 by omega];simpa using hZ
         have hds:∀ (a b:Blk),(L++a::b::Z).set (L.length+2+m) .dead=L++a::b::Z.set m .dead:=fun a b=>by
          rw [Gb _ _ (by omega),show L.length+2+m - L.length=m+1+1 by omega];rfl
         obtain ⟨C,hC⟩:=Fq (gr m0);obtain ⟨d,hd⟩:=Fq (m0.length);have hCl:C.length=d:=by rw [<- hC,FS,hd]
         have hCt:List.take d C=C:=Gd (by omega);have hd2:d<=1100000:=by omega
         rw [hC] at hLZ;rw [hd];have hC2:=hid hC;have hd3:=hid hd;clear hv hZ hC hd hml;refine sk ?_;refine wk ?_;refine aJ _ _ _ hlt.out (CutS (b:=by simp)) ⟨_,ps++[x],_,Z.set m .dead++[.cells (C++[.int .i64 xi])],rfl,hid hcm'.out,hid (.inr ⟨Z.length,by rw [hfl.out];simp,?_,by rw [hfl.out,show gr (m0++[x])=gr m0++gr [x] from FZ,hC2.out,hids.out,FJ (by simp)];simp⟩),rfl,by simp⟩;rw [hfl.out,show L.length+(Z.length+1+1)=L.length+2+Z.length by omega,FP,hd3.out];rfl
       ·have out:=hinF.out (by rw [hin.out,decide_eq_false d2,decide_eq_false d3];rfl);clear hin hinF hv hfT;refine sk ?_;refine wk ?_;refine aJ _ _ _ hlt.out (CutS (b:=by simp)) ⟨_,ps++[x],_,_,rfl,hid hcm'.out,out.out,rfl,rfl⟩
end Go.Proofs.Ytobihfefmlgaoaa.Av
