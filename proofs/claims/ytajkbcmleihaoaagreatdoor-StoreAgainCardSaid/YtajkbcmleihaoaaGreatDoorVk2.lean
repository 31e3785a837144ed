/- Joined texts of the walk, made small by a program. -/
import Derived.Test.YtajkbcmleihaoaaGreatDoorVk1
import Derived.MapKept
import Derived.Laws.StructEq
set_option linter.unusedSimpArgs false
set_option linter.unusedVariables false
namespace Go.Proofs.YtajkbcmleihaoaaGreatDoor.Av
open Go
def bN(P:Program)(w0:World)(S0:SB)(E:Env)(L':List Blk)(av:AV)(w:World)(s:Sem Value):Prop :=
 ∃E' v w',s.run P w=.ok v w'/\E.le E'/\VR E' av v/\Rel w0 S0 E' L' w'
section
variable {P:Program}{w0:World}{S0:SB}{E:Env}{L:List Blk}{w:World}
theorem bN.same{av:AV}{v:Value}{s:Sem Value}(a:Rel w0 S0 E L w)(h:s.run P w=.ok v w)(b:VR E av v):bN P w0 S0 E L av w s:=⟨E,v,w,h,.refl E,b,a⟩
theorem bp{t:TypeId}{n:Nat}(h:bJ P t=some n):(sizeOf t).run P w=.ok n w:=by unfold bJ at h;simp only[afr]at h;obtain⟨i,a,rfl⟩:=h;simp[sizeOf,typeInfo,a]
theorem yH{t:TypeId}{g:Bool}(h:lr P t=some g):(isAgg t).run P w=.ok g w:=by unfold lr at h;unfold isAgg;split at h<;>simp at h<;>subst h;rename_i a hd;simp[run_underlying hd];rename_i n e hd;simp[run_underlying hd];rename_i d c b hd;simp only[ae8,run_underlying hd,ae9];rfl
theorem J3{t:TypeId}{z:List AV}(h:zOf P t=some z):∃v,(∀w,(zeroValue t).run P w=.ok v w)/\VRL E z v.cells.toList/\∀a∈z,AV.one a=true:=by unfold zOf at h;rcases h1:P.info? t with _|i;simp_all;rcases h2:i.zero with _|v;simp_all;simp[h1,h2]at h;exact⟨v,λw=>by simp[zeroValue,typeInfo,h1,h2],Vm h⟩
theorem J4{t:TypeId}{z:List AV}(h:zOf P t=some z):∃v,(zeroValue t).run P w=.ok v w/\VRL E z v.cells.toList/\∀a∈z,AV.one a=true :=
 let ⟨v,h1,h2⟩:=J3 (E:=E) h
 ⟨v,h1 w,h2⟩
theorem VM{t:TypeId}{p:AV}{v:Value}{l:List AV}{off:Nat}(c:Rel w0 S0 E L w)(e:lr P t=some false)(hr:row L p=some (l,off))(h:VR E p v)(a:off<l.length):
  bN P w0 S0 E L (l.getD off .undef) w (Instr.loadAt t v):=by
 obtain⟨b,o,rfl,d⟩:=MD c hr h;obtain⟨x,g,f⟩:=d off l[off] (afn a);refine .same c (v:=x) ?_ (by rw[afh,afn a];exact f);simp[Instr.loadAt,Instr.sureAddr,loadVar,yH e,g]
theorem OC{t:TypeId}{l:List AV}{b o:Nat}(d:lr P t=some true)(f:bJ P t=some l.length)(c:∀(j:Nat) (a:AV),l[j]?=some a->∃x,w.cell? ⟨b,o+j,none⟩=some x/\VR E a x):∃cs,VRL E l cs/\(loadVar t ⟨b,o,none⟩).run P w=.ok (.agg ⟨cs⟩) w:=by
 obtain⟨cs,g,e⟩:=iP (P:=P) c;exact⟨cs,g,by simp[loadVar,yH d,bp f,e]⟩
theorem VL{t:TypeId}{p:AV}{v:Value}{l:List AV}{off sz:Nat}(e:Rel w0 S0 E L w)(k:lr P t=some true)(g:bJ P t=some sz)(hr:row L p=some (l,off))(q:VR E p v)(m:off+sz<=l.length):
  bN P w0 S0 E L (.agg ((l.drop off).take sz)) w (Instr.loadAt t v):=by
 obtain⟨b,o,rfl,i⟩:=MD e hr q;have c:((l.drop off).take sz).length=sz:=by simp;omega
 obtain⟨cs,h,f⟩:=OC (P:=P) (w:=w) (b:=b) (o:=o+off) (l:=(l.drop off).take sz) k (by rw[c];exact g) (λj a d=>by have n:j<sz:=(by have:=(aeY.1 d).1;omega);rw[afz n,afE]at d;have:=i _ _ d;rwa[<- af3]at this)
 refine .same e (v:=.agg ⟨cs⟩) ?_ ⟨cs,rfl,h⟩;simpa[Instr.loadAt,Instr.sureAddr]using f
theorem aap{l:List AV}{vs:List Value}{b:List Value}{ty:TypeId}{fr:Nat×Nat}{E':Env}{i:Nat}(f:VRL E l vs)(e:E.le E')(c:E'.loc i=some ⟨w.heap.size,0,vs.length+b.length⟩)(d:∀o,o<=vs.length+b.length->¬(fr.1<=o/\o<fr.2)):
  bg E' {w with heap:=w.heap.push (.cells ⟨vs++b⟩ ty fr)} i (.cells l):=by
 refine⟨_,⟨vs++b⟩,ty,fr,c,ah4,ah4,by have:=f.length;simp;omega,λj a k=>?_,λo _ n=>d o n⟩;obtain⟨v,g,h⟩:=f.get k;have m:j<vs.length:=(aeY.1 g).1;exact⟨v,by simp[ae3 m,g],VR.mono e _ _ h⟩
theorem sH{l:List AV}{vs:List Value}(c:Rel w0 S0 E L w)(e:VRL E l vs)(a:List Value)(ty:TypeId)(fr:Nat×Nat)(b:∀o,o<=vs.length+a.length->¬(fr.1<=o/\o<fr.2)):
  ∃E',E.le E'/\E'.loc L.length=some ⟨w.heap.size,0,vs.length+a.length⟩/\Rel w0 S0 E' (L++[.cells l]) {w with heap:=w.heap.push (.cells ⟨vs++a⟩ ty fr)}:=by
 have d:E.loc L.length=none:=c.fresh _ (ae0 _);have:=c.push (.cells ⟨vs++a⟩ ty fr) (.cells l) ⟨w.heap.size,0,vs.length+a.length⟩ rfl rfl (aap e (Env.le_loc _ d) ah4 b)
 grind
theorem Yi{l:List AV}{vs:List Value}{b:List Value}{ty:TypeId}{fr:Nat×Nat}{E':Env}{i:Nat}(f:VRL E l vs)(e:E.le E')(c:E'.loc i=some ⟨w.heap.size,0,vs.length+b.length⟩)(d:∀o,o<vs.length+b.length->¬(fr.1<=o/\o<fr.2)):
  bg E' {w with heap:=w.heap.push (.cells ⟨vs++b⟩ ty fr)} i (.bytes l):=by
 refine⟨_,⟨vs++b⟩,ty,fr,c,ah4,ah4,by have:=f.length;simp;omega,λj a k=>?_,λo _ n=>d o n⟩;obtain⟨v,g,h⟩:=f.get k;have m:j<vs.length:=(aeY.1 g).1;exact⟨v,by simp[ae3 m,g],VR.mono e _ _ h⟩
theorem TD{l:List AV}{vs:List Value}(c:Rel w0 S0 E L w)(e:VRL E l vs)(a:List Value)(ty:TypeId)(fr:Nat×Nat)(b:∀o,o<vs.length+a.length->¬(fr.1<=o/\o<fr.2)):
  ∃E',E.le E'/\E'.loc L.length=some ⟨w.heap.size,0,vs.length+a.length⟩/\Rel w0 S0 E' (L++[.bytes l]) {w with heap:=w.heap.push (.cells ⟨vs++a⟩ ty fr)}:=by
 have d:E.loc L.length=none:=c.fresh _ (ae0 _);have:=c.push (.cells ⟨vs++a⟩ ty fr) (.bytes l) ⟨w.heap.size,0,vs.length+a.length⟩ rfl rfl (Yi e (Env.le_loc _ d) ah4 b)
 grind
theorem OE{t:TypeId}{v:Value}{l:List AV}(c:Rel w0 S0 E L w)(b:VRL E l v.cells.toList):
  bN P w0 S0 E (L++[.cells l]) (.ptr L.length 0) w (do pure (.pointer (some (<- newVar t v)))):=by
 obtain⟨E',d,e,a⟩:=sH c b [] t (0,0) ah4;refine⟨E',.pointer (some ⟨w.heap.size,0,none⟩),{w with heap:=w.heap.push (.cells v.cells t)},by simp[newVar,newRow],d,?_,by simpa using a⟩;simp only[VR];simp[*]
theorem VN{t:TypeId}{z:List AV}(d:Rel w0 S0 E L w)(b:zOf P t=some z):bN P w0 S0 E (L++[.cells z]) (.ptr L.length 0) w (Instr.alloc t true (.tuple #[])):=by obtain⟨v,e,a,_⟩:=J4 (w:=w) (E:=E) b;obtain⟨E',x,w',c,h4⟩:=OE (P:=P) (t:=t) d a;exact⟨E',x,w',by simpa[Instr.alloc,e]using c,h4⟩
theorem X7(cs:List Value):∀(j off:Nat) (z:Array Value),off+j+cs.length<=z.size ->
  ((cs.zipIdx j).foldl (λa (x:Value×Nat)=>a.setIfInBounds (off+x.2) x.1) z).size=z.size /\
  ∀k,((cs.zipIdx j).foldl (λa (x:Value×Nat)=>a.setIfInBounds (off+x.2) x.1) z)[k]?=if off+j<=k/\k<off+j+cs.length then cs[k-(off+j)]? else z[k]?:=by
 induction cs with
 |nil=>intro j off z _;exact⟨rfl,λk=>by rw[if_neg ah4];rfl⟩
 | cons c cs ih =>
   intro j off z b;simp only[afg]at b;simp only[List.zipIdx_cons,afO,afg];have:=ih (j+1) off (z.setIfInBounds (off+j) c) (by rw[Array.size_setIfInBounds];omega)
   grind
theorem Pn{T:Tm}{a:Act}(q:TR E T a){place:Nat->Option (Nat×Nat)}{d:TypeDesc}(n:∀i r,LR P d i=some r->place i=some r):∀{ps:List (Nat×Operand)}{m:List (Nat×Nat×Opd)}{z l:List AV}{cells:Array Value},
  fT P d ps=some m->lv T z m=some l->VRL E z cells.toList->∃cs,Instr.fill place cells (ps.map λ(i,x)=>(i,a.eval x))=some cs/\VRL E l cs.toList
 |[],m,z,l,cells,hm,c,hz=>by simp[fT]at hm;subst hm;simp[lv]at c;subst c;exact⟨cells,by simp[Instr.fill],hz⟩
 | (i,x)::ps,m,z,l,cells,hm,c,hz=>by
   simp only[fT]at hm;split at hm<;>simp at hm;rename_i o s y F t B C;subst hm;simp only[lv]at c;split at c<;>try simp at c
   rename_i vals h4;obtain⟨⟨D,G⟩,c⟩:=c;rcases h7:evX T y with _|u
   .simp_all
   .simp[h7]at h4;have A:=ah B h7 q;have h:=qN h4 A;have e:=h.length;have f:=hz.length;have key:=X7 (a.eval x).cells.toList 0 o cells (by simp at e f⊢;omega);have j:VRL E (bS z o vals) (((a.eval x).cells.toList.zipIdx 0).foldl (λa (x:Value×Nat)=>a.setIfInBounds (o+x.2) x.1) cells).toList:=by
     refine VRL.of_get (by rw[mQ ah3];simpa using key.1.trans (by simpa using f)) λk b g=>?_
     rw[Jp ah3]at g;rw[ahI,key.2 k];by_cases p:o<=k/\k<o+vals.length
     .rw[if_pos p]at g;rw[if_pos ah3];exact h.get g
     .rw[if_neg p]at g;rw[if_neg ah3];simpa using hz.get g
    obtain⟨cs,w,v⟩:=Pn q n C c j;refine⟨cs,?_,v⟩;simp only[afe,Instr.fill,n _ _ t];rw[if_neg (by simp at e f⊢;omega)];rw[<- w];rw[<- Array.foldl_toList,Array.toList_zipIdx]
end
section
variable {P:Program}{w0:World}{S0:SB}{E:Env}{L:List Blk}{w:World}{T:Tm}{a:Act}
theorem PS:∀(l:List Field),(∀f∈l,(bJ P f.type).isSome=true) ->
  (l.mapM (m:=Sem) λf=>do pure (f.offset,<- sizeOf f.type)).run P w=.ok (l.map λf=>(f.offset,(bJ P f.type).getD 0)) w
 |[],_=>ah4
 | f::l,h=>by
   have a:=h f ah4;rw[Option.isSome_iff_exists]at a;obtain⟨n,a⟩:=a;have c:=PS l λg b=>h g (by simp[b])
   rw[ahq,ae8,ae8,bp a];simp_all
theorem Uh{t:TypeId}{b:Array Field}{ps:List (Nat×Operand)}{z l:List AV}{m:List (Nat×Nat×Opd)}(o:TR E T a)(q:Rel w0 S0 E L w)(hd:P.underlying t=some (.struct b))(h:zOf P t=some z)(d:b.toList.all (λf=>(bJ P f.type).isSome)=true)(j:fT P (.struct b) ps=some m)(p:lv T z m=some l):
  bN P w0 S0 E L (.agg l) w (Instr.build t ⟨ps.map λ(i,x)=>(i,a.eval x)⟩):=by
 obtain⟨v,k,g,_⟩:=J4 (w:=w) (E:=E) h;obtain⟨cs,s,h4⟩:=Pn (place:=λi=>(b.toList.map λf=>(f.offset,(bJ P f.type).getD 0)).toArray[i]?) o (λi r hr=>by simp only[LR]at hr;split at hr<;>simp at hr;rename_i f c;obtain⟨n,e,rfl⟩:=hr;simp[c,e]) j p g
 refine .same q (v:=.agg cs) ?_ ⟨cs.toList,rfl,h4⟩;have:=PS (P:=P) (w:=w) b.toList (afd.1 d);simp only[Instr.build,ae8,k,ae9,run_underlying hd,Array.mapM_eq_mapM_toList,Sem.run_map,this];simp_all
theorem Ui{t e:TypeId}{n:Nat}{ps:List (Nat×Operand)}{z l:List AV}{m:List (Nat×Nat×Opd)}(h:TR E T a)(k:Rel w0 S0 E L w)(hd:P.underlying t=some (.array n e))(d:zOf P t=some z)(f:fT P (.array n e) ps=some m)(b:(bJ P e).isSome=true)(j:lv T z m=some l):
  bN P w0 S0 E L (.agg l) w (Instr.build t ⟨ps.map λ(i,x)=>(i,a.eval x)⟩):=by
 obtain⟨v,g,c,_⟩:=J4 (w:=w) (E:=E) d;rw[Option.isSome_iff_exists]at b;obtain⟨s,b⟩:=b;obtain⟨cs,o,h4⟩:=Pn (place:=λi=>some (i*s,s)) h (λi r hr=>by simp only[LR,b,afi]at hr;exact hr) f j c
 refine .same k (v:=.agg cs) ?_ ⟨cs.toList,rfl,h4⟩;simp only[Instr.build,ae8,g,ae9,run_underlying hd,bp b];simp[*]
theorem kO(z:List AV):∀n,(di z n).length=n*z.length
 |0=>by simp[di]
 |n+1=>by simp[di,kO z n,Nat.succ_mul];omega
theorem Rz{z:List AV}(b:0<z.length):∀(n i:Nat),i<n*z.length->(di z n)[i]?=z[i%z.length]?
 |0,i,h=>by simp at h
 | n+1,i,h=>by
   simp only[di];rcases aft i z.length with a|a
   .rw[ae3 a,Nat.mod_eq_of_lt a]
   .rw[aff a,Rz b n (i-z.length) (by rw[Nat.succ_mul]at h;omega)];rw[Nat.mod_eq_sub_mod a]
theorem Kh{z:List AV}{vs:List Value}(h:VRL E z vs)(n:Nat):VRL E (di z n) ((List.range (n*vs.length)).map λi=>vs.toArray[i%vs.toArray.size]!):=by
 have d:=h.length;refine VRL.of_get (by simp[kO,d]) λi x a=>?_
 have b:i<n*z.length:=by have:=(aeY.1 a).1;rwa[kO]at this
 have c:0<z.length:=by grind
 rw[Rz c n i b]at a;obtain⟨v,f,e⟩:=h.get a;simp[*]
theorem Md:∀{m:List (Nat×Nat×Opd)}{z l:List AV},lv T z m=some l->l.length=z.length
 |[],z,l,h=>by simp[lv]at h;rw[h]
 | (o,s,x)::m,z,l,h=>by
   simp only[lv]at h;split at h<;>try simp at h
   rename_i vals _;obtain⟨⟨a,b⟩,h⟩:=h;rw[Md h,mQ ah3]
theorem Uj{t e:TypeId}{n s:Nat}{own:Bool}{ps:List (Nat×Operand)}{z l:List AV}{m:List (Nat×Nat×Opd)}(F:TR E T a)(u:Rel w0 S0 E L w)(hd:P.underlying t=some (.slice e))(g:bJ P e=some s)(y:zOf P e=some z)(f:z.length=s)(H:n*s<=2^24)(C:fT P (.slice e) ps=some m)(o:lv T (di z n) m=some l):
  if own then bN P w0 S0 E (L++[.cells l]) (.lsl L.length 0 n (some n) s) w (Instr.buildSlice t n ⟨ps.map λ(i,x)=>(i,a.eval x)⟩)
  else bN P w0 S0 E L (.sl l n (some n)) w (Instr.buildSlice t n ⟨ps.map λ(i,x)=>(i,a.eval x)⟩):=by
 obtain⟨v,A,p,_⟩:=J4 (w:=w) (E:=E) y;have B:v.cells.size=s:=by have:=p.length;simpa[f]using this
 have d:VRL E (di z n) ((Array.range (n*s)).map (v.cells[· % v.cells.size]!)).toList:=by have:=Kh p n;simp_all
 obtain⟨cs,G,h4⟩:=Pn (place:=λi=>some (i*s,s)) F (λi r hr=>by simp only[LR,g,afi]at hr;exact hr) C o d
 have D:l.length=n*s:=by rw[Md o,kO,f]
 have b:=h4.length;have c:(Instr.buildSlice t n ⟨ps.map λ(i,x)=>(i,a.eval x)⟩).run P w=.ok (.slice (some ⟨w.heap.size,0,none⟩) n n) {w with heap:=w.heap.push (.cells cs e)}:=by by_cases j:n*s=0;have hr:Array.range 0=#[]:=rfl;simp[j,hr]at G;simp[Instr.buildSlice,run_underlying hd,bp g,j,hr,newRow];simp[*];simp[Instr.buildSlice,run_underlying hd,bp g,show ¬(n*s>2^24)by omega,j,A,newRow];simp_all
 split;obtain⟨E',k,h,q⟩:=sH u h4 [] e (0,0) ah4;refine⟨E',_,_,c,k,?_,by simpa using q⟩;exact⟨_,n,0,h,rfl,ah4,ae0 _,ah4,by simp at b⊢;omega⟩;obtain⟨E',k,h,q,I⟩:=u.imm cs.toList e l h4 [] (0,0);refine⟨E',_,_,c,k,?_,by simpa using h⟩;simp only[VR]
 grind
theorem VC{t:TypeId}{v x:Value}{p:AV}{i off sz:Nat}{l vals:List AV}(o:Rel w0 S0 E L w)(g:bJ P t=some sz)(h:p=.ptr i off)(q:VR E p v)(e:L[i]?=some (.cells l))(d:VRL E vals x.cells.toList)(b:vals.all AV.one=true)(a:vals.length=sz)(n:off+sz<=l.length):
  ∃w',(Instr.storeAt t v x).run P w=.ok () w'/\Rel w0 S0 E (L.set i (.cells (bS l off vals))) w':=by
 subst h;obtain⟨c,m,rfl⟩:=q;have j:=d.length;obtain⟨w',k,f⟩:=J9 (P:=P) (off:=off) o e m d (by simpa using b) ah3;refine⟨w',?_,f⟩;have:x.cells.size=sz:=by simpa[a]using j
 simp[Instr.storeAt,Instr.sureAddr,storeVar,bp g,this,k]
theorem Uk{t:TypeId}{v x:Value}{p:AV}{i off sz:Nat}{l vals:List AV}(o:Rel w0 S0 E L w)(g:bJ P t=some sz)(h:p=.ptr i off)(q:VR E p v)(e:L[i]?=some (.bytes l))(d:VRL E vals x.cells.toList)(b:vals.all AV.one=true)(a:vals.length=sz)(n:off+sz<=l.length):
  ∃w',(Instr.storeAt t v x).run P w=.ok () w'/\Rel w0 S0 E (L.set i (.bytes (bS l off vals))) w':=by
 subst h;obtain⟨c,m,rfl⟩:=q;have j:=d.length;obtain⟨w',k,f⟩:=Xh (P:=P) (off:=off) o e m d (by simpa using b) ah3;refine⟨w',?_,f⟩;have:x.cells.size=sz:=by simpa[a]using j
 simp[Instr.storeAt,Instr.sureAddr,storeVar,bp g,this,k]
theorem abW{op:UnOp}{x y:AV}{v:Value}(a:Rel w0 S0 E L w)(b:VR E x v)(h:un op x=some y):bN P w0 S0 E L y w (Op.unary op v):=by unfold un at h;split at h<;>simp at h<;>subst h<;>simp only[VR]at b<;>subst b;exact .same a (v:=.int _ _) (by simp[Op.unary,Op.intArith]) rfl;exact .same a (v:=.int _ _) (by simp[Op.unary,Op.intBits]) rfl;exact .same a (v:=.bool _) (by simp[Op.unary]) rfl
theorem X3{op:BinOp}{t:TypeId}{k:IntKind}{m n:Int}{y:AV}{c:Prop}(hR:Rel w0 S0 E L w)(h:ach op k m n=some (c,y))(hc:c):
  bN P w0 S0 E L y w (binOp op t (.int k m) (.int k n)):=by
 cases op<;>simp only[ach,aeZ,afb,reduceCtorEq]at h<;>obtain⟨rfl,rfl⟩:=h
 case quo=>exact .same hR (v:=.int _ _) (by simp[binOp,Op.intDiv,hc]) rfl
 case rem=>exact .same hR (v:=.int _ _) (by simp[binOp,Op.intDiv,hc]) rfl
 case add|sub|mul=>exact .same hR (v:=.int _ _) (by simp[binOp,Op.intArith]) rfl
 case and|or|xor|andNot=>exact .same hR (v:=.int _ _) (by simp[binOp,Op.intBits]) rfl
 case eql =>
  refine .same hR (v:=.bool (m == n)) (by simp[binOp,Op.intCmp]) ?_;rfl
 case neq =>
  refine .same hR (v:=.bool (m != n)) (by simp[binOp,Op.intCmp]) ?_;rfl
 all_goals exact .same hR (v:=.bool _) (by simp[binOp,Op.intCmp]) rfl
theorem X2{op:BinOp}{t:TypeId}{x z:List UInt8}{y:AV}{c:Prop}(hR:Rel w0 S0 E L w)(h:acg op x z=some (c,y))(hc:c):
  bN P w0 S0 E L y w (binOp op t (.string ⟨⟨x⟩⟩) (.string ⟨⟨z⟩⟩)):=by
 have e1:(ByteArray.mk ⟨x⟩).toList=x:=ahr x;have e2:(ByteArray.mk ⟨z⟩).toList=z:=ahr z;have e3:(x == z)=decide (x=z):=by by_cases h:x=z<;>simp[h]
 cases op<;>simp only[acg,aeZ,afb,reduceCtorEq]at h<;>obtain⟨rfl,rfl⟩:=h
 case add =>
  refine .same hR (v:=.string ⟨⟨x++z⟩⟩) ?_ rfl;have hs1:(ByteArray.mk ⟨x⟩).size=x.length:=rfl;have hs2:(ByteArray.mk ⟨z⟩).size=z.length:=rfl;have hm:¬(((x.length+z.length:Nat):Int)>IntKind.i64.max):=by simp_all
  simp only[binOp,Op.stringOp,hs1,hs2,if_neg hm];rfl
 all_goals exact .same hR (v:=.bool _) (by simp[binOp,Op.stringOp,e1,e2,e3];try rfl) rfl
end
section
variable {P:Program}{w0:World}{S0:SB}{E:Env}{L:List Blk}{w:World}{T:Tm}{a:Act}
theorem ZW{op:BinOp}{t:TypeId}{x y:AV}{u v:Value}{r:AV}{c:Prop}(f:Rel w0 S0 E L w)(a:VR E x u)(b:VR E y v)(h:bin op x y=some (c,r))(d:c):
  bN P w0 S0 E L r w (binOp op t u v):=by
 unfold bin at h;split at h;simp only[aeZ,afb]at h;obtain⟨rfl,rfl⟩:=h;simp only[VR]at a b;subst a b;exact .same f (v:=.int _ _) (by simp[binOp,Op.shift,show ¬(_<(0:Int))from Int.not_lt.2 d]) rfl;simp only[aeZ,afb]at h;obtain⟨rfl,rfl⟩:=h;simp only[VR]at a b;subst a b;exact .same f (v:=.int _ _) (by simp[binOp,Op.shift,show ¬(_<(0:Int))from Int.not_lt.2 d]) rfl;split at h;rename_i e;subst e;simp only[VR]at a b;subst a b;exact X3 f h d;cases h;simp only[VR]at a b;subst a b;exact X2 f h d;cases h
theorem Ql(t:TypeId)(x y:Value):Op.equal t x y=Op.equalIn (9999+1) t x y:=rfl
def EqK.fits:EqK->TypeDesc->Bool
 |.bool,.bool|.ptr,.pointer _|.slice,.slice _|.map,.map _ _|.func,.func _ _ _|.iface,.interface _=>true
 |_,_=>false
theorem VR.ptr_shape{i off:Nat}{v:Value}(h:VR E (.ptr i off) v):∃p,v=.pointer (some p):=by simp only[VR]at h;obtain⟨_,_,h⟩:=h;exact⟨_,h⟩
theorem VR.iptr_shape{l:List AV}{off:Nat}{v:Value}(h:VR E (.iptr l off) v):∃p,v=.pointer (some p):=by simp only[VR]at h;obtain⟨_,_,h,_⟩:=h;exact⟨_,h⟩
theorem VR.lsl_shape{i off n s:Nat}{c:Option Nat}{v:Value}(h:VR E (.lsl i off n c s) v):∃p c,v=.slice (some p) n c:=by simp only[VR]at h;obtain⟨_,_,_,_,h,_⟩:=h;exact⟨_,_,h⟩
theorem VR.lmap_shape{i:Nat}{v:Value}(h:VR E (.lmap i) v):∃p,v=.map (some p):=by simp only[VR]at h;obtain⟨_,_,h⟩:=h;exact⟨_,h⟩
theorem VR.func_shape{f:FuncId}{l:List AV}{v:Value}(h:VR E (.func f l) v):∃p,v=.func (.func f) #[] p:=by simp only[VR]at h;obtain⟨_,h,_⟩:=h;exact⟨_,h⟩
theorem VR.iface_shape{t:TypeId}{x:AV}{v:Value}(h:VR E (.iface t x) v):∃p,v=.iface t p:=by simp only[VR]at h;obtain⟨_,h,_⟩:=h;exact⟨_,h⟩
set_option maxHeartbeats 2000000 in
theorem ab5{k:EqK}{t:TypeId}{d:TypeDesc}{x y:AV}{u v:Value}{r:Bool}(a:VR E x u)(b:VR E y v)(hd:P.underlying t=some d)(c:k.fits d=true)(h:eqA k x y=some r):
  (Op.equal t u v).run P w=.ok r w/\(∀k m,u≠.int k m)/\(∀s,u≠.string s)/\(∀l,u≠.agg l)/\(u=.nilIface->v=.nilIface->k=.iface)/\(∀k f,u≠.float k f)/\(∀k f g,u≠.complex k f g):=by
 rw[Ql];generalize 9999=depth;unfold eqA at h;split at h<;>simp at h<;>subst h<;>cases d<;>simp[EqK.fits]at c
 all_goals
  (first
   |(obtain⟨_,rfl⟩:=a.ptr_shape)|(obtain⟨_,rfl⟩:=a.iptr_shape)|(obtain⟨_,_,rfl⟩:=a.lsl_shape)
   |(obtain⟨_,rfl⟩:=a.lmap_shape)|(obtain⟨_,rfl⟩:=a.func_shape)|(obtain⟨_,rfl⟩:=a.iface_shape)|(simp only[VR]at a;subst a))
  (first
   |(obtain⟨_,rfl⟩:=b.ptr_shape)|(obtain⟨_,rfl⟩:=b.iptr_shape)|(obtain⟨_,_,rfl⟩:=b.lsl_shape)
   |(obtain⟨_,rfl⟩:=b.lmap_shape)|(obtain⟨_,rfl⟩:=b.func_shape)|(obtain⟨_,rfl⟩:=b.iface_shape)|(simp only[VR]at b;subst b))
  (refine⟨?_,ah4,ah4,ah4,ah4,ah4,ah4⟩)
  (simp only[Op.equalIn,ae8,run_underlying hd,ae9,afv,Option.isNone,beq_self_eq_true])
 rfl
theorem abX{op:BinOp}{k:EqK}{t:TypeId}{d:TypeDesc}{x y:AV}{u v:Value}{r:Bool}(a:Bool)(b:op=if a then .neq else .eql)(p:Rel w0 S0 E L w)(l:VR E x u)(o:VR E y v)(hd:P.underlying t=some d)(f:k.fits d=true)(h:eqA k x y=some r)(X Y:Operand)(c:k=.iface->(lq X ||lq Y)=true):
  bN P w0 S0 E L (.bool (if a then !r else r)) w (do eqGuard op t X Y u v;binOp op t u v):=by
 obtain⟨i,e,g,n3,n4,m,j⟩:=ab5 (P:=P) (w:=w) l o hd f h;have n:(eqGuard op t X Y u v).run P w=.ok () w:=by
  subst b;unfold eqGuard;cases a<;>simp
  all_goals
   split
   .have:=c (n4 rfl rfl);cases X<;>cases Y<;>simp[lq]at this<;>simp
   .exact absurd rfl (n3 _)
   .rfl
 refine .same p (v:=.bool (if a then !r else r)) ?_ (by simp[VR]);rw[ae8,n,ae9];subst b;cases a<;>simp only[if_true,if_false,afm]
 all_goals
  cases u<;>first
   |exact absurd rfl (e _ _)
   |exact absurd rfl (g _)
   |exact absurd rfl (m _ _)
   |exact absurd rfl (j _ _ _)
   |simp[binOp,i]
theorem VD{op:BinOp}{t e:TypeId}{u:Value}{n:Nat}(a:Bool)(b:op=if a then .neq else .eql)(j:Rel w0 S0 E L w)(hd:P.underlying t=some (.slice e))(h:∃p c,u=.slice p n c/\(p=none->n=0))(X Y:Operand):
  bN P w0 S0 E L (if n=0 then .anyb else .bool a) w (do eqGuard op t X Y u (.slice none 0 0);binOp op t u (.slice none 0 0)):=by
 obtain⟨p,c,rfl,i⟩:=h;have d:(Op.equal t (.slice p n c) (.slice none 0 0)).run P w=.ok p.isNone w:=by rw[Ql];generalize 9999=depth;simp only[Op.equalIn,ae8,run_underlying hd,ae9,afv,Option.isNone];cases p<;>rfl
 have f:(eqGuard op t X Y (.slice p n c) (.slice none 0 0)).run P w=.ok () w:=by unfold eqGuard;simp
 refine .same j (v:=.bool (if a then !p.isNone else p.isNone)) ?_ ?_;rw[ae8,f,ae9];subst b;cases a<;>simp[binOp,d];split;exact⟨_,rfl⟩;rename_i g;cases p with
 |none=>exact absurd (i rfl) g
 |some p=>cases a<;>rfl
theorem X1{s d:TypeId}{k:IntKind}{n:Int}{v:Value}{q:IntKind}(c:Rel w0 S0 E L w)(a:∃j,P.underlying s=some (.int j))(hd:P.underlying d=some (.int k))(b:VR E (.int q n) v):
  bN P w0 S0 E L (.int k (k.wrap n)) w (convert s d v):=by
 obtain⟨j,a⟩:=a;simp only[VR]at b;subst b;exact .same c (v:=.int _ _) (by simp[convert,run_underlying a,run_underlying hd,Conv.intToInt]) rfl
theorem VF{s d:TypeId}{v:Value}{x:AV}(e:Rel w0 S0 E L w)(c:P.underlying s=some .string)(hd:P.underlying d=some .string)(a:VR E x v)(b:∃l,x=.str l):
  bN P w0 S0 E L x w (convert s d v):=by
 obtain⟨l,rfl⟩:=b;simp only[VR]at a;subst a;exact .same e (v:=.string _) (by simp[convert,run_underlying c,run_underlying hd]) rfl
theorem VR.gsl_sl{l:List AV}{n i s:Nat}{v:Value}(h:VR E (.gsl l n i s) v):VR E (.sl l n none) v/\l.length=n*s:=by
 simp only[VR]at h⊢
 grind
theorem Kc{sz n k:Nat}{l:List AV}{cap:Option Nat}{v:Value}(q:Rel w0 S0 E L w)(s:VR E (.sl l n cap) v)(u:l.length=n*sz)(g:k<=n):
  (Builtin.lenOf v).run P w=.ok n w/\∃cs,VRL E (l.take (k*sz)) cs/\cs.length=k*sz/\(Builtin.firstCells sz k v).run P w=.ok ⟨cs⟩ w:=by
 have r:k*sz<=n*sz:=agi _ g;have d:(l.take (k*sz)).length=k*sz:=by simp;omega
 obtain⟨p,c,rfl,y,t,e⟩:=s;refine⟨by simp[Builtin.lenOf],?_⟩;rcases e with⟨rfl,rfl,rfl⟩|⟨b,o,rfl,e⟩;have:k=0:=ah3;subst this;exact⟨[],by simp[VRL],ah4,by cases p<;>simp[Builtin.firstCells,loadCells,loadCellsFrom]⟩;obtain⟨cs,h4,f⟩:=iP (P:=P) (w:=w) (b:=b) (o:=o) (l:=l.take (k*sz)) λj a h=>by obtain⟨x,m,i⟩:=(e.take (k*sz)).get h;exact⟨x,q.mem _ _ _ m,i⟩
 exact⟨cs,h4,by rw[h4.length,d],by rw[d]at f;simpa[Builtin.firstCells]using f⟩
theorem ba{sz:Nat}{x:AV}{v:Value}{c:Prop}{l:List AV}{n:Nat}(A:Rel w0 S0 E L w)(f:VR E x v)(h:elems L sz x=some (c,l,n))(z:c):
  (Builtin.lenOf v).run P w=.ok n w/\l.length=n*sz/\∃cs,VRL E l cs/\(Builtin.firstCells sz n v).run P w=.ok ⟨cs⟩ w:=by
 unfold elems at h;split at h;simp only[aeZ,afb]at h;obtain⟨rfl,rfl,rfl⟩:=h;simp only[VR]at f;subst f;exact⟨by simp[Builtin.lenOf],ah4,[],by simp[VRL],by simp[Builtin.firstCells]⟩;rename_i l m cap;simp only[aeZ,afb]at h;obtain⟨rfl,rfl,rfl⟩:=h;obtain⟨p,cs,t,_,J⟩:=Kc (P:=P) A f z (ae0 _)
 grind
 rename_i l m i s;simp only[aeZ,afb]at h;obtain⟨rfl,rfl,rfl⟩:=h;subst z;obtain⟨f,z⟩:=f.gsl_sl;obtain⟨p,cs,t,_,J⟩:=Kc (P:=P) A f z (ae0 _)
 grind
 rename_i i off m cap s;split at h;rename_i u B;simp only[aeZ,afb]at h;obtain⟨rfl,rfl,rfl⟩:=h;simp only[VR]at f;obtain⟨k,O,d,p,rfl,t,J,h4,N⟩:=f;obtain⟨k',G,ty,fr,g1,D,g3,g4,F,M⟩:=A.blk i _ B;rw[p]at g1;cases g1;have e:((u.drop off).take (m*sz)).length=m*sz:=by simp;omega
 refine⟨by simp[Builtin.lenOf],e,?_⟩;rcases agf m with y|y;subst y;exact⟨[],by simp[VRL],by simp[Builtin.firstCells,loadCells,loadCellsFrom]⟩;have hd:=t ah3;subst hd;obtain⟨cs,I,q⟩:=iP (P:=P) (w:=w) (b:=k.blk) (o:=k.off+off) (l:=(u.drop off).take (m*sz)) λj a g=>by have K:j<m*sz:=(by have:=(aeY.1 g).1;omega);rw[afz K,afE]at g;obtain⟨x,r,C⟩:=F _ _ g;refine⟨x,?_,C⟩;rw[<- af3]at r;simp[World.cell?,D,r]
 exact⟨cs,I,by rw[e]at q;simpa[Builtin.firstCells]using q⟩;rename_i u B;simp only[aeZ,afb]at h;obtain⟨rfl,rfl,rfl⟩:=h;simp only[VR]at f;obtain⟨k,O,d,p,rfl,t,J,h4,N⟩:=f;obtain⟨k',G,ty,fr,g1,D,g3,g4,F,M⟩:=A.blk i _ B;rw[p]at g1;cases g1;have e:((u.drop off).take (m*sz)).length=m*sz:=by simp;omega
 refine⟨by simp[Builtin.lenOf],e,?_⟩;rcases agf m with y|y;subst y;exact⟨[],by simp[VRL],by simp[Builtin.firstCells,loadCells,loadCellsFrom]⟩;have hd:=t ah3;subst hd;obtain⟨cs,I,q⟩:=iP (P:=P) (w:=w) (b:=k.blk) (o:=k.off+off) (l:=(u.drop off).take (m*sz)) λj a g=>by have K:j<m*sz:=(by have:=(aeY.1 g).1;omega);rw[afz K,afE]at g;obtain⟨x,r,C⟩:=F _ _ g;refine⟨x,?_,C⟩;rw[<- af3]at r;simp[World.cell?,D,r]
 exact⟨cs,I,by rw[e]at q;simpa[Builtin.firstCells]using q⟩;cases h;split at h;rename_i s H;simp only[aeZ,afb]at h;obtain⟨rfl,rfl,rfl⟩:=h;simp only[VR]at f;subst f;subst H;refine⟨by simp[Builtin.lenOf];rfl,by simp[u8s],s.map λb=>.int .u8 b.toNat,?_,?_⟩;refine VRL.of_get (by simp[u8s]) λi a g=>?_
 simp only[u8s,afS,afr]at g⊢;obtain⟨b,p,rfl⟩:=g;exact⟨_,⟨b,p,rfl⟩,rfl⟩;have:(ByteArray.mk ⟨s⟩).extract 0 s.length=⟨⟨s⟩⟩:=by apply ByteArray.ext;simp
 simp[Builtin.firstCells,this];cases h;cases h
end
section
variable {P:Program}{w0:World}{S0:SB}{E:Env}{L:List Blk}{w:World}{T:Tm}{a:Act}
theorem QN:∀(l:List AV) (cs:List Value) (s:ByteArray),VRL E l cs->l.all Q9=true ->
  ((forIn (m := Sem) cs s fun c r => match c with
    |.int .u8 n=>pure (.yield (r.push (UInt8.ofNat n.toNat)))
    | _=>do
      stuck (α:=PUnit) "bytesToString: byte expected"
      pure (.yield r)):Sem ByteArray).run P w=.ok ⟨s.data++(l.map OM).toArray⟩ w
 |[],cs,s,h,_=>by simp only[VRL]at h;subst h;simp
 | a::l,cs,s,h,hb=>by
   obtain⟨x,xs,rfl,e,f⟩:=h;simp only[af2,ae7]at hb;obtain⟨d,b⟩:=hb;have:∃n,a=.int .u8 n:=by
    unfold Q9 at d
    grind
   obtain⟨n,rfl⟩:=this;simp only[VR]at e;subst e;have g:=QN l xs (s.push (UInt8.ofNat n.toNat)) f b;simp only[List.forIn_cons,ae8,afv,ae9];rw[g];congr 1;simp[ByteArray.push,OM]
theorem Gy(w:World)(c:Array Value)(e:TypeId):World.freeze {w with heap:=w.heap.push (.cells c e)} ⟨w.heap.size,c.size,none⟩ 1={w with heap:=w.heap.push (.cells c e (c.size,c.size+1))}:=by
 simp only[World.freeze,Nat.one_ne_zero,if_false];congr 1
 grind
theorem Jr(w:World)(c:Array Value)(e:TypeId):World.shape? {w with heap:=w.heap.push (.cells c e)} w.heap.size=some (e,c.size):=by simp only[World.shape?,Array.getElem?_push_size]
theorem ZX{s d e:TypeId}{x:AV}{v:Value}{c:Prop}{l:List AV}{n:Nat}(j:Rel w0 S0 E L w)(q:P.underlying s=some (.slice e))(u:P.underlying e=some (.int .u8))(hd:P.underlying d=some .string)(b:VR E x v)(h:elems L 1 x=some (c,l,n))(B:c)(o:l.all Q9=true)(D:∀t,x≠.str t):bN P w0 S0 E L (.str (l.map OM)) w (convert s d v):=by
 obtain⟨z,C,cs,i,h4⟩:=ba (P:=P) j b h B;refine .same j (v:=.string ⟨⟨l.map OM⟩⟩) ?_ (by simp[VR]);have g:∃a n c,v=.slice a n c:=by cases x<;>simp[elems]at h;simp_all;simp only[VR]at b;exact⟨_,_,_,b⟩;simp only[VR]at b;obtain⟨_,_,rfl,_⟩:=b;exact⟨_,_,_,rfl⟩;obtain⟨_,_,rfl⟩:=b.lsl_shape;exact⟨_,_,_,rfl⟩;simp only[VR]at b;obtain⟨_,_,rfl,_⟩:=b;exact⟨_,_,_,rfl⟩
 obtain⟨a,m,k,rfl⟩:=g;have A:m=n:=by simpa[Builtin.lenOf]using z
 subst A;have f:(convert s d (.slice a m k)).run P w=(Conv.bytesToString (.slice a m k)).run P w:=by simp[convert,run_underlying q,run_underlying hd,run_underlying u]
 rw[f];cases a with
 | none =>
   have:cs=[]:=(by simpa[Builtin.firstCells]using h4.symm);subst this;have y:l=[]:=(by have:=i.length;simpa using this.symm);subst y;rfl
 | some p =>
   simp only[Builtin.firstCells,Nat.mul_one]at h4;simp only[Conv.bytesToString,ae8,h4,ae9];have:=QN (P:=P) (w:=w) l cs ByteArray.empty i o;rw[show(⟨cs⟩:Array Value)=cs.toArray from rfl,List.forIn_toArray];refine(congrArg (λr=>Result.andThen r λa w'=>(Pure.pure (Value.string a):Sem Value).run P w') this).trans ?_;simp
theorem ZU{s d e:TypeId}{v:Value}{x:List UInt8}(c:Rel w0 S0 E L w)(r:P.underlying s=some .string)(hd:P.underlying d=some (.slice e))(t:P.underlying e=some (.int .u8))(o:VR E (.str x) v):
  bN P w0 S0 E L (.sl (u8s x) x.length none) w (convert s d v):=by
 simp only[VR]at o;subst o;have j:(ByteArray.mk ⟨x⟩).size=x.length:=rfl;obtain⟨cap,f⟩:∃cap,cap=(Question.appendCap x.length 0 e).cut (w.tape w.drawn (.appendCap x.length 0 e)):=⟨_,rfl⟩;have z:x.length<=cap:=by rw[f];simp[Question.cut]
 have h:VRL E (u8s x) (x.map λb=>Value.int .u8 b.toNat):=VRL.of_get (by simp[u8s]) λi a n=>by simp only[u8s,afS,afr]at n⊢;obtain⟨b,y,rfl⟩:=n;exact⟨_,⟨b,y,rfl⟩,rfl⟩
 have l:Rel w0 S0 E L {w with drawn:=w.drawn+1}:=⟨c.mem,λi k q=>bg.world (λ_ _=>rfl) (λ_ _ _ _=>rfl) (c.blk i k q),c.fresh,c.own,c.inj,c.tkfresh,c.tkown,c.tkloc,c.tkinj,c.frame,c.size,c.os,c.tape,c.output,c.glob,c.gsz⟩;obtain⟨A,u,p,B,_⟩:=l.imm (x.map λb=>Value.int .u8 b.toNat) e (u8s x) h (List.replicate (cap-x.length) (.int .u8 0)) (x.length+(cap-x.length),x.length+(cap-x.length)+1);have key:(convert s d (.string ⟨⟨x⟩⟩)).run P w=.ok (.slice (some ⟨w.heap.size,0,none⟩) x.length cap) {w with heap:=w.heap.push (.cells ⟨(x.map λb=>Value.int .u8 b.toNat)++List.replicate (cap-x.length) (.int .u8 0)⟩ e (x.length+(cap-x.length),x.length+(cap-x.length)+1)),drawn:=w.drawn+1}:=by
  have g:((ByteArray.mk ⟨x⟩).data.map λb=>Value.int .u8 b.toNat)++Array.replicate (cap-x.length) (.int .u8 0)=⟨(x.map λb=>Value.int .u8 b.toNat)++List.replicate (cap-x.length) (.int .u8 0)⟩:=by simp
  have m:(convert s d (.string ⟨⟨x⟩⟩)).run P w=(Conv.stringToBytes e ⟨⟨x⟩⟩).run P w:=by simp only[convert,ae8,run_underlying r,run_underlying hd,ae9,run_underlying t]
  rw[m];unfold Conv.stringToBytes;simp only[ae8,run_choose,Question.forced,j,<- f,g,newRow,run_newObj,ae9,afv,markStringish,run_shape,afm,if_false];rw[Jr {w with drawn:=w.drawn+1}];simp only[run_freeze,ae9];rw[Gy {w with drawn:=w.drawn+1}];simp
 refine⟨A,.slice (some ⟨w.heap.size,0,none⟩) x.length cap,_,key,u,?_,p⟩;simp only[VR]
 grind
theorem XV{s d e:TypeId}{v:Value}{x:List UInt8}(c:Rel w0 S0 E L w)(t:P.underlying s=some .string)(hd:P.underlying d=some (.slice e))(u:P.underlying e=some (.int .u8))(p:VR E (.str x) v):
  bN P w0 S0 E (L++[.bytes (u8s x)]) (.lsl L.length 0 x.length none 1) w (convert s d v):=by
 simp only[VR]at p;subst p;have j:(ByteArray.mk ⟨x⟩).size=x.length:=rfl;obtain⟨cap,f⟩:∃cap,cap=(Question.appendCap x.length 0 e).cut (w.tape w.drawn (.appendCap x.length 0 e)):=⟨_,rfl⟩;have m:x.length<=cap:=by rw[f];simp[Question.cut]
 have h:VRL E (u8s x) (x.map λb=>Value.int .u8 b.toNat):=VRL.of_get (by simp[u8s]) λi a o=>by simp only[u8s,afS,afr]at o⊢;obtain⟨b,A,rfl⟩:=o;exact⟨_,⟨b,A,rfl⟩,rfl⟩
 have l:Rel w0 S0 E L {w with drawn:=w.drawn+1}:=⟨c.mem,λi k r=>bg.world (λ_ _=>rfl) (λ_ _ _ _=>rfl) (c.blk i k r),c.fresh,c.own,c.inj,c.tkfresh,c.tkown,c.tkloc,c.tkinj,c.frame,c.size,c.os,c.tape,c.output,c.glob,c.gsz⟩;obtain⟨B,z,q,y⟩:=TD l h (List.replicate (cap-x.length) (.int .u8 0)) e (x.length+(cap-x.length),x.length+(cap-x.length)+1) (by simp;omega);have key:(convert s d (.string ⟨⟨x⟩⟩)).run P w=.ok (.slice (some ⟨w.heap.size,0,none⟩) x.length cap) {w with heap:=w.heap.push (.cells ⟨(x.map λb=>Value.int .u8 b.toNat)++List.replicate (cap-x.length) (.int .u8 0)⟩ e (x.length+(cap-x.length),x.length+(cap-x.length)+1)),drawn:=w.drawn+1}:=by
  have g:((ByteArray.mk ⟨x⟩).data.map λb=>Value.int .u8 b.toNat)++Array.replicate (cap-x.length) (.int .u8 0)=⟨(x.map λb=>Value.int .u8 b.toNat)++List.replicate (cap-x.length) (.int .u8 0)⟩:=by simp
  have n:(convert s d (.string ⟨⟨x⟩⟩)).run P w=(Conv.stringToBytes e ⟨⟨x⟩⟩).run P w:=by simp only[convert,ae8,run_underlying t,run_underlying hd,ae9,run_underlying u]
  rw[n];unfold Conv.stringToBytes;simp only[ae8,run_choose,Question.forced,j,<- f,g,newRow,run_newObj,ae9,afv,markStringish,run_shape,afm,if_false];rw[Jr {w with drawn:=w.drawn+1}];simp only[run_freeze,ae9];rw[Gy {w with drawn:=w.drawn+1}];simp
 refine⟨B,.slice (some ⟨w.heap.size,0,none⟩) x.length cap,_,key,z,?_,y⟩;refine⟨_,cap,0,q,rfl,ah4,m,ah4,?_⟩;simp_all
theorem XW{s d e:TypeId}{v:Value}{x:List UInt8}(f:Rel w0 S0 E L w)(I:P.underlying s=some .string)(hd:P.underlying d=some (.slice e))(J:P.underlying e=some (.int .u8))(D:VR E (.str x) v):
  bN P w0 S0 E (L++[.spare x.length 1]) (.gsl (u8s x) x.length L.length 1) w (convert s d v):=by
 simp only[VR]at D;subst D;have t:(ByteArray.mk ⟨x⟩).size=x.length:=rfl;obtain⟨cap,g⟩:∃cap,cap=(Question.appendCap x.length 0 e).cut (w.tape w.drawn (.appendCap x.length 0 e)):=⟨_,rfl⟩;have q:x.length<=cap:=by rw[g];simp[Question.cut]
 have p:VRL E (u8s x) (x.map λb=>Value.int .u8 b.toNat):=VRL.of_get (by simp[u8s]) λi a A=>by simp only[u8s,afS,afr]at A⊢;obtain⟨b,B,rfl⟩:=A;exact⟨_,⟨b,B,rfl⟩,rfl⟩
 have u:Rel w0 S0 E L {w with drawn:=w.drawn+1}:=⟨f.mem,λi k m=>bg.world (λ_ _=>rfl) (λ_ _ _ _=>rfl) (f.blk i k m),f.fresh,f.own,f.inj,f.tkfresh,f.tkown,f.tkloc,f.tkinj,f.frame,f.size,f.os,f.tape,f.output,f.glob,f.gsz⟩;obtain⟨O,M,H,K,N,W,R⟩:=u.imm' (x.map λb=>Value.int .u8 b.toNat) e (u8s x) p (List.replicate (cap-x.length) (.int .u8 0)) (x.length+(cap-x.length),x.length+(cap-x.length)+1);have key:(convert s d (.string ⟨⟨x⟩⟩)).run P w=.ok (.slice (some ⟨w.heap.size,0,none⟩) x.length cap) {w with heap:=w.heap.push (.cells ⟨(x.map λb=>Value.int .u8 b.toNat)++List.replicate (cap-x.length) (.int .u8 0)⟩ e (x.length+(cap-x.length),x.length+(cap-x.length)+1)),drawn:=w.drawn+1}:=by
  have l:((ByteArray.mk ⟨x⟩).data.map λb=>Value.int .u8 b.toNat)++Array.replicate (cap-x.length) (.int .u8 0)=⟨(x.map λb=>Value.int .u8 b.toNat)++List.replicate (cap-x.length) (.int .u8 0)⟩:=by simp
  have y:(convert s d (.string ⟨⟨x⟩⟩)).run P w=(Conv.stringToBytes e ⟨⟨x⟩⟩).run P w:=by simp only[convert,ae8,run_underlying I,run_underlying hd,ae9,run_underlying J]
  rw[y];unfold Conv.stringToBytes;simp only[ae8,run_choose,Question.forced,t,<- g,l,newRow,run_newObj,ae9,afv,markStringish,run_shape,afm,if_false];rw[Jr {w with drawn:=w.drawn+1}];simp only[run_freeze,ae9];rw[Gy {w with drawn:=w.drawn+1}];simp
 have h:Yr w0 S0 O L {w with heap:=w.heap.push (.cells ⟨(x.map λb=>Value.int .u8 b.toNat)++List.replicate (cap-x.length) (.int .u8 0)⟩ e (x.length+(cap-x.length),x.length+(cap-x.length)+1)),drawn:=w.drawn+1} L.length x.length 1 (some ⟨w.heap.size,0,cap⟩):=by rintro k m;cases m;refine⟨⟨_,_,_,Array.getElem?_push_size,by simp;omega,λo B S=>by simp only at S⊢;omega⟩,λo Q=>R o (by simpa using Q),.inr f.size,λj k' c z U C e=>?_,λj Y V t' k' X z F r e=>?_⟩;rw[N]at C;have:=f.loc_lt z U C;simp_all;rw[W]at F;have:=f.tok_lt z F r;simp_all
 obtain⟨G,T⟩:=H.addtok (n:=x.length) (sz:=1) h;refine⟨_,.slice (some ⟨w.heap.size,0,none⟩) x.length cap,_,key,M.trans G,?_,T⟩;exact⟨_,cap,rfl,q,by simp[u8s],.inr ⟨_,0,rfl,VRC.mono G _ _ _ K⟩,⟨x.length,1,some ⟨w.heap.size,0,cap⟩⟩,ah4,ah4,λ_=>⟨rfl,ah4,λk m=>by cases m;exact⟨rfl,ah4⟩⟩⟩
theorem Ud{t:TypeId}{v:Value}{x:List UInt8}(c:Rel w0 S0 E L w)(b:P.underlying t=some .string)(a:VR E (.str x) v):
  bN P w0 S0 E (L++[.siter x 0]) (.ptr L.length 0) w (Instr.range t v):=by
 simp only[VR]at a;subst a;have:=c.push (.stringIter ⟨⟨x⟩⟩ 0) (.siter x 0) ⟨w.heap.size,0,0⟩ rfl rfl ⟨⟨w.heap.size,0,0⟩,ah4,ah4,rfl⟩;refine⟨_,.pointer (some ⟨w.heap.size,0,none⟩),_,?_,this.1,?_,this.2⟩;simp[Instr.range,run_underlying b];simp only[VR];simp
theorem VG{t:TypeId}{v:Value}{i p:Nat}{x:List UInt8}(k:Rel w0 S0 E L w)(l:L[i]?=some (.siter x p))(s:VR E (.ptr i 0) v):
  bN P w0 S0 E (if p<x.length then L.set i (.siter x (p+(Qv x p).2))else L) (if p<x.length then .tup [.bool true,.int .i64 (p:Int),.int .i32 ((Qv x p).1:Int)]else .tup [.bool false]) w (Instr.next v true t):=by
 obtain⟨c,h,rfl⟩:=s;obtain⟨c',m,f,q⟩:=k.blk i _ l;rw[h]at m;cases m;have d:(ByteArray.mk ⟨x⟩).size=x.length:=rfl;have j:c.blk<w.heap.size:=(afJ.1 f).1;have n:(getObj c.blk).run P w=.ok (.stringIter ⟨⟨x⟩⟩ p) w:=by simp[getObj,Sem.run,f]
 have g:∀o,(setObj c.blk o).run P w=.ok () {w with heap:=w.heap.setIfInBounds c.blk o}:=λo=>by simp[setObj,Sem.run,f]
 rw[q];by_cases a:p<x.length;rw[if_pos a,if_pos a];have:=k.turn (w':={w with heap:=w.heap.setIfInBounds c.blk (.stringIter ⟨⟨x⟩⟩ (p+(Qv x p).2))}) (k':=.siter x (p+(Qv x p).2)) l rfl h ah4 (λb r=>by simp[agV,Ne.symm r]) rfl rfl rfl
  ⟨c,h,by simp[j],q⟩ (λ_ _ e=>by cases e)
 refine⟨E,.tuple #[.bool true,goInt p,.int .i32 ((Qv x p).1:Int)],_,?_,.refl E,?_,this⟩;simp[Instr.next,n,d,a,g,Qv];simp[VR,VRL,goInt];rw[if_neg a,if_neg a];refine .same k (v:=.tuple #[.bool false]) (by simp[Instr.next,n,d,a]) ?_;simp[VR,VRL]
end
section
variable {P:Program}{w0:World}{S0:SB}{E:Env}{L:List Blk}{w:World}{T:Tm}{a:Act}
theorem Sy{t e:TypeId}{s b:Nat}{z:List AV}{n m:Int}{k j:IntKind}(C:Rel w0 S0 E L w)(hd:P.underlying t=some (.slice e))(F:bJ P e=some s)(h:QO P e=some b)(G:zOf P e=some z)(g:z.length=s)(d:0<=n)(H:n<=m)(I:b*m<=2^48)(J:m<2^62):
  bN P w0 S0 E (L++[.cells (di z m.toNat)]) (.lsl L.length 0 n.toNat (some m.toNat) s) w (Instr.makeSlice t (.int k n) (.int j m)):=by
 obtain⟨v,g1,l,_⟩:=J4 (w:=w) (E:=E) G;have r:v.cells.size=s:=by have:=l.length;simpa[g]using this
 have a:VRL E (di z m.toNat) ((Array.range (m.toNat*s)).map (v.cells[· % v.cells.size]!)).toList:=by have:=Kh l m.toNat;simp_all
 obtain⟨i,o,f⟩:∃i,P.info? e=some i/\i.bytes=b:=by unfold QO at h;simpa using h
 have c:(typeInfo e).run P w=.ok i w:=by simp[typeInfo,o]
 obtain⟨E',A,q,y⟩:=sH C a [] e (0,0) ah4;have B:IntKind.i64.wrap n=n:=by simp only[IntKind.wrap,IntKind.bits,IntKind.signed];simp;omega
 have u:IntKind.i64.wrap m=m:=by simp only[IntKind.wrap,IntKind.bits,IntKind.signed];simp;omega
 refine⟨E',.slice (some ⟨w.heap.size,0,none⟩) n.toNat m.toNat,_,?_,A,?_,y⟩;have x:(decide (m<0) ||decide ((b:Int)*m>2^48))=false:=by simp;omega
 have p:(decide (n<0))=false:=by simp;omega
 have D:(decide (n>m))=false:=by simp;omega
 simp only[Instr.makeSlice,ae8,run_underlying hd,ae9,asInt,asIntOf,afv,c,f,B,u,x,p,D,Bool.or_self,afm,if_false,run_askRoom,bp F];by_cases d:m.toNat*s=0;have hr:Array.range 0=#[]:=rfl;simp[d,hr,newRow];simp[d,g1,newRow];congr 2
 grind
 refine⟨_,m.toNat,0,q,rfl,ah4,ah3,ah4,?_⟩;simp
theorem acd{x:Option Operand}{y:Option Opd}{r:Option Int}(c:TR E T a)(h:vT x=some y)(b:bnd T y=some r):
  (x=none/\r=none)\/∃o k n,x=some o/\r=some n/\a.eval o=.int k n:=by
 cases x with
 |none=>simp[vT]at h;subst h;simp[bnd]at b;exact .inl ⟨rfl,b.symm⟩
 | some o =>
   simp only[vT,afr]at h;obtain⟨u,d,rfl⟩:=h;simp only[bnd]at b;split at b
   .rename_i k n hn;simp at b;subst b;have:=ah d hn c;simp only[VR]at this;simp[*]
   simp_all
theorem bF{k:IntKind}{n:Int}{y:Nat}{c:BoundsCode}(a:0<=n)(b:n<=y):(Instr.sliceBound (.int k n) y c).run P w=.ok n.toNat w:=by simp[Instr.sliceBound,asIntOf,a,b]
theorem fL{b:Bool}{len cap:Nat}{h f:Option Operand}{c d:Option Int}(g:(h=none/\c=none)\/∃o k n,h=some o/\c=some n/\a.eval o=.int k n)(e:(f=none/\d=none)\/∃o k n,f=some o/\d=some n/\a.eval o=.int k n)(m:0<=c.getD 0)(p:c.getD 0<=d.getD len)(l:d.getD len<=cap)(v:len<=cap):
  (Instr.sliceBounds b len cap (h.map a.eval) (f.map a.eval) none).run P w=.ok ((c.getD 0).toNat,(d.getD len).toNat,cap) w:=by
 rcases g with⟨rfl,rfl⟩|⟨o1,u,q,rfl,rfl,i⟩<;>rcases e with⟨rfl,rfl⟩|⟨t,s,r,rfl,rfl,j⟩<;>simp only[Option.getD_none,agj]at m p l;rfl;simp only[Instr.sliceBounds,afx,afi,j,ae8,afv,ae9];rw[bF ah3 ah3];simp;simp only[Instr.sliceBounds,afx,afi,i,ae8,afv,ae9];rw[bF ah3 ah3];simp;simp only[Instr.sliceBounds,afx,afi,i,j,ae8,afv,ae9];rw[bF ah3 ah3];simp only[ae9];rw[bF ah3 ah3];simp
theorem ZT{t:TypeId}{v:Value}{x:List UInt8}{i f:Option Operand}{c d:Option Int}(r:Rel w0 S0 E L w)(hd:P.underlying t=some .string)(j:VR E (.str x) v)(h:(i=none/\c=none)\/∃o k n,i=some o/\c=some n/\a.eval o=.int k n)(e:(f=none/\d=none)\/∃o k n,f=some o/\d=some n/\a.eval o=.int k n)(p:0<=c.getD 0)(q:c.getD 0<=d.getD x.length)(m:d.getD x.length<=x.length):
  bN P w0 S0 E L (.str ((x.drop (c.getD 0).toNat).take ((d.getD x.length).toNat-(c.getD 0).toNat))) w (Instr.sliceAt t v (i.map a.eval) (f.map a.eval) none):=by
 simp only[VR]at j;subst j;have g:(ByteArray.mk ⟨x⟩).size=x.length:=rfl;refine .same r (v:=.string ⟨⟨(x.drop (c.getD 0).toNat).take ((d.getD x.length).toNat-(c.getD 0).toNat)⟩⟩) ?_ (by simp[VR]);have l:=fL (P:=P) (w:=w) (b:=false) h e p q m (ae0 _);simp only[Instr.sliceAt,Instr.slice,ae8,run_underlying hd,ae9,g,Option.isSome_none,afm,if_false,l];simp only[afv];congr 2;apply ByteArray.ext;simp
theorem Qf{t:TypeId}{p:Array Field}{f:Nat}{a:Field}{x:AV}{v:Value}(r:Rel w0 S0 E L w)(hd:P.underlying t=some (.struct p))(q:p.toList[f]?=some a)(k:(bJ P a.type).getD 0≠0)(j:VR E x v):
  (∀i off,x=.ptr i off->bN P w0 S0 E L (.ptr i (off+a.offset)) w (Instr.fieldAt t v f))/\(∀l off,x=.iptr l off->bN P w0 S0 E L (.iptr l (off+a.offset)) w (Instr.fieldAt t v f)):=by
 obtain⟨n,m⟩:∃n,bJ P a.type=some n:=by rcases h:bJ P a.type with _|n;simp_all;simp
 simp only[m,agj]at k;rw[ahI]at q;have d:∀b o,(Instr.fieldAt t (.pointer (some ⟨b,o,none⟩)) f).run P w=.ok (.pointer (some ⟨b,o+a.offset,none⟩)) w:=λb o=>by simp[Instr.fieldAt,run_underlying hd,q,Instr.sureAddr,fieldPlace,bp m,k,Addr.add_mk]
 refine⟨λi off e=>?_,λl off e=>?_⟩<;>subst e<;>simp only[VR]at j;obtain⟨c,g,rfl⟩:=j;exact .same r (d _ _) ⟨c,g,by rw[af3]⟩;obtain⟨b,o,rfl,g⟩:=j;exact .same r (d _ _) ⟨b,o,by rw[af3],g⟩
theorem Qe{t:TypeId}{k:Array Field}{f sz:Nat}{g:Bool}{a:Field}{l:List AV}{v:Value}(m:Rel w0 S0 E L w)(hd:P.underlying t=some (.struct k))(h:k.toList[f]?=some a)(j:lr P a.type=some g)(o:bJ P a.type=some sz)(q:VR E (.agg l) v):
  (g=true->a.offset+sz<=l.length->bN P w0 S0 E L (.agg ((l.drop a.offset).take sz)) w (Instr.field t v f))/\(g=false->a.offset<l.length->bN P w0 S0 E L (l.getD a.offset .undef) w (Instr.field t v f)):=by
 rw[ahI]at h;obtain⟨vs,rfl,b⟩:=q;refine⟨λe c=>?_,λe c=>?_⟩<;>subst e;refine .same m (v:=.agg ((⟨vs⟩:Array Value).extract a.offset (a.offset+sz))) (by simp[Instr.field,run_underlying hd,h,asAgg,part,yH j,bp o]) ?_;refine⟨(vs.drop a.offset).take sz,ah4,VRL.of_get (by simp[b.length]) λi x d=>?_⟩;have n:i<sz:=by have:=(aeY.1 d).1;simp at this;omega
 rw[afz n,afE]at d⊢;exact b.get d;obtain⟨x,p,r⟩:=b.get (afn c);refine .same m (v:=x) (by simp[Instr.field,run_underlying hd,h,asAgg,part,yH j,p]) ?_;simp[*]
theorem JF{t e:TypeId}{sz:Nat}{x:AV}{v:Value}{j:IntKind}{k:Int}(r:Rel w0 S0 E L w)(hd:P.underlying t=some (.slice e))(u:bJ P e=some sz)(h:VR E x v)(y:0<=k):
  (∀l n c,x=.sl l n c->k<n->bN P w0 S0 E L (.iptr l (k.toNat*sz)) w (Instr.indexAt t v (.int j k))) /\
  (∀i off n c s,x=.lsl i off n c s->k<n->bN P w0 S0 E L (.ptr i (off+k.toNat*sz)) w (Instr.indexAt t v (.int j k))):=by
 have f:∀b o n c,k<(n:Nat)->(Instr.indexAt t (.slice (some ⟨b,o,none⟩) n c) (.int j k)).run P w=.ok (.pointer (some ⟨b,o+k.toNat*sz,none⟩)) w:=λb o n c a=>by simp[Instr.indexAt,asIntOf,run_underlying hd,y,a,bp u,Addr.add_mk]
 refine⟨λl n c e a=>?_,λi off n c s e a=>?_⟩<;>subst e<;>simp only[VR]at h;obtain⟨p,k',rfl,q,m,g⟩:=h;rcases g with⟨rfl,rfl,rfl⟩|⟨b,o,rfl,g⟩;omega;exact .same r (f _ _ _ _ a) ⟨b,o,rfl,g⟩;obtain⟨c',z,d,q,rfl,m,g,h4⟩:=h;have:=m ah3;subst this;exact .same r (f _ _ _ _ a) ⟨c',q,by rw[af3]⟩
theorem OF{t e:TypeId}{sz n:Nat}{x:AV}{v:Value}{j:IntKind}{k:Int}(d:Rel w0 S0 E L w)(hd:P.underlying t=some (.array n e))(g:bJ P e=some sz)(c:VR E x v)(h:0<=k)(f:k<n):
  (∀l off,x=.iptr l off->bN P w0 S0 E L (.iptr l (off+k.toNat*sz)) w (Instr.indexAt t v (.int j k))) /\
  (∀i off,x=.ptr i off->bN P w0 S0 E L (.ptr i (off+k.toNat*sz)) w (Instr.indexAt t v (.int j k))):=by
 have a:∀b o,(Instr.indexAt t (.pointer (some ⟨b,o,none⟩)) (.int j k)).run P w=.ok (.pointer (some ⟨b,o+k.toNat*sz,none⟩)) w:=λb o=>by simp[Instr.indexAt,asIntOf,run_underlying hd,h,f,bp g,Addr.add_mk,Instr.sureAddr]
 refine⟨λl off e=>?_,λi off e=>?_⟩<;>subst e<;>simp only[VR]at c;obtain⟨b,o,rfl,p⟩:=c;exact .same d (a _ _) ⟨b,o,by rw[af3],p⟩;obtain⟨c',m,rfl⟩:=c;exact .same d (a _ _) ⟨c',m,by rw[af3]⟩
theorem X0{t:TypeId}{s:List UInt8}{v:Value}{j:IntKind}{k:Int}(e:Rel w0 S0 E L w)(hd:P.underlying t=some .string)(c:VR E (.str s) v)(d:0<=k)(f:k<s.length):
  bN P w0 S0 E L (.int .u8 (s.getD k.toNat 0).toNat) w (Instr.index t v (.int j k)):=by
 simp only[VR]at c;subst c;have a:k.toNat<s.length:=ah3;refine .same e (v:=.int .u8 (s[k.toNat]).toNat) ?_ (by simp[VR,a]);have:(ByteArray.mk ⟨s⟩)[k.toNat]?=some s[k.toNat]:=by have b:k.toNat<(ByteArray.mk ⟨s⟩).size:=a;rw[getElem?_pos (ByteArray.mk ⟨s⟩) k.toNat b];rfl
 simp[Instr.index,asIntOf,run_underlying hd,d,this]
theorem Sz{l:List AV}{i:Nat}{x:AV}{v:Value}(c:Rel w0 S0 E L w)(e:VR E (.tup l) v)(h:l[i]?=some x):bN P w0 S0 E L x w (Instr.extract v i):=by obtain⟨vs,rfl,a⟩:=e;obtain⟨y,d,b⟩:=a.get h;exact .same c (v:=y) (by simp[Instr.extract,d]) b
end
section
variable {P:Program}{w0:World}{S0:SB}{E:Env}{L:List Blk}{w:World}{T:Tm}{a:Act}
abbrev Mw(a:Act)(x:Option Operand)(r:Option Int):Prop:=(x=none/\r=none)\/∃o k n,x=some o/\r=some n/\a.eval o=.int k n
theorem Sw{t e:TypeId}{v:Value}{j h:Option Operand}{d c:Option Int}{sz:Nat}(m:Rel w0 S0 E L w)(hd:P.underlying t=some (.slice e))(l:bJ P e=some sz)(i:VR E .nilsl v)(g:Mw a j d)(f:Mw a h c)(n:d.getD 0=0)(o:c.getD 0=0):bN P w0 S0 E L .nilsl w (Instr.sliceAt t v (j.map a.eval) (h.map a.eval) none):=by
 simp only[VR]at i;subst i;have k:=fL (P:=P) (w:=w) (b:=true) (len:=0) (cap:=0) g f ah3 (by simp only[Int.natCast_zero];omega) (by simp only[Int.natCast_zero];omega) (ae0 _);refine .same m (v:=.slice none 0 0) ?_ (by simp[VR]);simp only[Instr.sliceAt,Instr.slice,ae8,run_underlying hd,ae9,k,bp l,afv];simp[*]
theorem Qd{t e:TypeId}{v:Value}{u r:Option Operand}{f g:Option Int}{sz n:Nat}{x:AV}(G:Rel w0 S0 E L w)(hd:P.underlying t=some (.slice e))(H:bJ P e=some sz)(C:VR E x v)(z:Mw a u f)(y:Mw a r g)(K:0<=f.getD 0)(I:f.getD 0<=g.getD n):
  (∀ l cap,x=.sl l n cap->g.getD n<=n->bN P w0 S0 E L (.sl ((l.drop ((f.getD 0).toNat * sz)).take (((g.getD n).toNat - (f.getD 0).toNat) * sz)) ((g.getD n).toNat - (f.getD 0).toNat) (cap.map (· - (f.getD 0).toNat))) w
   (Instr.sliceAt t v (u.map a.eval) (r.map a.eval) none)) /\
  (∀ i off cap,x=.lsl i off n cap sz->g.getD n<=((cap.getD n:Nat):Int)->bN P w0 S0 E L (.lsl i (off+(f.getD 0).toNat * sz) ((g.getD n).toNat - (f.getD 0).toNat) (cap.map (· - (f.getD 0).toNat)) sz) w
   (Instr.sliceAt t v (u.map a.eval) (r.map a.eval) none)):=by
 have j:∀p,n=0->g.getD n<=n->(Instr.sliceAt t (.slice p 0 0) (u.map a.eval) (r.map a.eval) none).run P w=.ok (.slice p 0 0) w:=λp Q h=>by
  subst Q;have D:=fL (P:=P) (w:=w) (b:=true) (len:=0) (cap:=0) z y K I h (ae0 _);simp only[Instr.sliceAt,Instr.slice,ae8,run_underlying hd,ae9,D,bp H,afv]
  grind
 have s:∀b o c,n<=c->g.getD n<=c->(Instr.sliceAt t (.slice (some ⟨b,o,none⟩) n c) (u.map a.eval) (r.map a.eval) none).run P w =
   .ok (.slice (some ⟨b,if c=(f.getD 0).toNat then o else o+(f.getD 0).toNat*sz,none⟩) ((g.getD n).toNat-(f.getD 0).toNat) (c-(f.getD 0).toNat)) w:=λb o c O h=>by
  have D:=fL (P:=P) (w:=w) (b:=true) (len:=n) (cap:=c) z y K I h O;simp only[Instr.sliceAt,Instr.slice,ae8,run_underlying hd,ae9,D,bp H,afv];split<;>simp[Addr.add_mk]
 refine⟨λl cap J h=>?_,λi off cap J h=>?_⟩<;>subst J<;>simp only[VR]at C;obtain⟨p,c,rfl,g1,B,g3⟩:=C;rcases g3 with⟨rfl,rfl,rfl⟩|⟨b,o,rfl,g3⟩;have N:(f.getD 0).toNat=0:=ah3;have S:(g.getD ((0:Nat):Int)).toNat=0:=ah3;refine .same G (j p rfl h) ?_;rw[N,S];refine⟨p,0,rfl,ae0 _,λk m=>?_,.inl ⟨rfl,rfl,ah4⟩⟩;simp_all;refine .same G (s b o c g1 ah3) ?_;refine⟨_,_,rfl,ah3,λk m=>?_,.inr ⟨b,_,rfl,?_⟩⟩;cases cap with
 |none=>simp at m
 |some q=>simp at m;rw[B q rfl];exact m
 by_cases M:c=(f.getD 0).toNat;have:(g.getD n).toNat-(f.getD 0).toNat=0:=ah3;rw[this];simp[VRC];rw[if_neg M];exact(g3.drop _).take _;obtain⟨c,A,d,R,rfl,g1,B,g3,g4⟩:=C;have F:g.getD n<=A:=by
  cases cap with
  |none=>simp at h;omega
  |some q=>simp at h;rw[g3 q rfl];exact h
 refine .same G (s c.blk d A B F) ?_;refine⟨c,_,_,R,rfl,λT=>?_,ah3,λk m=>?_,?_⟩
 grind
 cases cap with
 |none=>simp at m
 |some q=>simp at m;rw[g3 q rfl];exact m
 have U:(f.getD 0).toNat*sz+(A-(f.getD 0).toNat)*sz=A*sz:=by rw[<- af4];congr 1;omega
 omega
theorem RU{t e:TypeId}{v:Value}{g:Option Operand}{f j:Operand}{d:Option Int}{h m:Int}{D A:IntKind}{sz n:Nat}{l:List AV}{cap:Option Nat}(u:Rel w0 S0 E L w)(hd:P.underlying t=some (.slice e))(r:bJ P e=some sz)(B:VR E (.sl l n cap) v)(k:Mw a g d)(i:a.eval f=.int D h)(q:a.eval j=.int A m)(G:0<=d.getD 0)(z:d.getD 0<=h)(K:h<=n)(M:h<=m)(h4:m<=n):
  bN P w0 S0 E L (.sl ((l.drop ((d.getD 0).toNat*sz)).take ((h.toNat-(d.getD 0).toNat)*sz)) (h.toNat-(d.getD 0).toNat) (some (m.toNat-(d.getD 0).toNat))) w
   (Instr.sliceAt t v (g.map a.eval) (some (a.eval f)) (some (a.eval j))):=by
 obtain⟨p,c,rfl,g1,H,g3⟩:=B;have s:(Instr.sliceBounds true n c (g.map a.eval) (some (a.eval f)) (some (a.eval j))).run P w=.ok ((d.getD 0).toNat,h.toNat,m.toNat) w:=by simp only[Instr.sliceBounds,i,q,ae8,if_true];rw[bF ah3 ah3];simp only[ae9,ae8];rw[bF ah3 ah3];simp only[ae9];rcases k with⟨rfl,rfl⟩|⟨o1,I,J,rfl,rfl,C⟩;simp;simp only[agj]at G z;simp only[afi,C,ae8];rw[bF ah3 ah3];simp
 rcases g3 with⟨rfl,rfl,rfl⟩|⟨b,o,rfl,g3⟩;have y:(d.getD 0).toNat=0:=ah3;have F:h.toNat=0:=ah3;have z3:m.toNat=0:=ah3;refine .same u (v:=.slice p 0 0) ?_ ?_;simp only[Instr.sliceAt,Instr.slice,ae8,run_underlying hd,ae9,s,bp r,afv];simp[*];simp only[VR];rw[y,F,z3]
 grind
 refine .same u (v:=.slice (some ⟨b,if m.toNat=(d.getD 0).toNat then o else o+(d.getD 0).toNat*sz,none⟩) (h.toNat-(d.getD 0).toNat) (m.toNat-(d.getD 0).toNat)) ?_ ?_;simp only[Instr.sliceAt,Instr.slice,ae8,run_underlying hd,ae9,s,bp r,afv];split<;>simp[Addr.add_mk];refine⟨_,_,rfl,ah3,ah4,.inr ⟨b,_,rfl,?_⟩⟩;by_cases x:m.toNat=(d.getD 0).toNat;have:h.toNat-(d.getD 0).toNat=0:=ah3;rw[this];simp[VRC];rw[if_neg x];exact(g3.drop _).take _
theorem VE{t e:TypeId}{v:Value}{g:Option Operand}{f k:Operand}{b:Option Int}{h m:Int}{B x:IntKind}{sz n i off:Nat}{cap:Option Nat}(G:Rel w0 S0 E L w)(hd:P.underlying t=some (.slice e))(s:bJ P e=some sz)(r:VR E (.lsl i off n cap sz) v)(o:Mw a g b)(j:a.eval f=.int B h)(p:a.eval k=.int x m)(C:0<=b.getD 0)(u:b.getD 0<=h)(N:h<=m)(h4:m<=((cap.getD n:Nat):Int)):
  bN P w0 S0 E L (.lsl i (off+(b.getD 0).toNat*sz) (h.toNat-(b.getD 0).toNat) (some (m.toNat-(b.getD 0).toNat)) sz) w
   (Instr.sliceAt t v (g.map a.eval) (some (a.eval f)) (some (a.eval k))):=by
 simp only[VR]at r;obtain⟨c,l,d,y,rfl,g1,H,g3,g4⟩:=r;have D:m<=l:=by
  cases cap with
  |none=>simp at h4;omega
  |some q=>simp at h4;rw[g3 q rfl];exact h4
 have z:(Instr.sliceBounds true n l (g.map a.eval) (some (a.eval f)) (some (a.eval k))).run P w=.ok ((b.getD 0).toNat,h.toNat,m.toNat) w:=by simp only[Instr.sliceBounds,j,p,ae8,if_true];rw[bF ah3 ah3];simp only[ae9,ae8];rw[bF ah3 ah3];simp only[ae9];rcases o with⟨rfl,rfl⟩|⟨o1,I,J,rfl,rfl,A⟩;simp;simp only[agj]at C u;simp only[afi,A,ae8];rw[bF ah3 ah3];simp
 refine .same G (v:=.slice (some ⟨c.blk,if m.toNat=(b.getD 0).toNat then d else d+(b.getD 0).toNat*sz,none⟩) (h.toNat-(b.getD 0).toNat) (m.toNat-(b.getD 0).toNat)) ?_ ?_;simp only[Instr.sliceAt,Instr.slice,ae8,run_underlying hd,ae9,z,bp s,afv];split<;>simp[Addr.add_mk];simp only[VR];refine⟨c,_,_,y,rfl,λF=>?_,ah3,ah4,?_⟩
 grind
 have K:(b.getD 0).toNat*sz+(m.toNat-(b.getD 0).toNat)*sz=m.toNat*sz:=by rw[<- af4];congr 1;omega
 have M:m.toNat*sz<=l*sz:=agi _ ah3;omega
theorem Uc{t e:TypeId}{v:Value}{j h:Option Operand}{d f:Option Int}{sz n:Nat}{x:AV}(q:Rel w0 S0 E L w)(hd:P.underlying t=some (.array n e))(A:bJ P e=some sz)(k:VR E x v)(p:Mw a j d)(m:Mw a h f)(F:0<=d.getD 0)(B:d.getD 0<=f.getD n)(D:f.getD n<=n):
  (∀ l off,x=.iptr l off->bN P w0 S0 E L (.sl ((l.drop (off+(d.getD 0).toNat * sz)).take (((f.getD n).toNat - (d.getD 0).toNat) * sz)) ((f.getD n).toNat - (d.getD 0).toNat) (some (n - (d.getD 0).toNat))) w
   (Instr.sliceAt t v (j.map a.eval) (h.map a.eval) none)) /\
  (∀ i off l,x=.ptr i off->L[i]?=some (.cells l)->off+n * sz<=l.length->bN P w0 S0 E L (.lsl i (off+(d.getD 0).toNat * sz) ((f.getD n).toNat - (d.getD 0).toNat) (some (n - (d.getD 0).toNat)) sz) w
   (Instr.sliceAt t v (j.map a.eval) (h.map a.eval) none)):=by
 have g:∀b o,(Instr.sliceAt t (.pointer (some ⟨b,o,none⟩)) (j.map a.eval) (h.map a.eval) none).run P w =
   .ok (.slice (some ⟨b,if n=(d.getD 0).toNat then o else o+(d.getD 0).toNat*sz,none⟩) ((f.getD n).toNat-(d.getD 0).toNat) (n-(d.getD 0).toNat)) w:=λb o=>by
  have C:=fL (P:=P) (w:=w) (b:=false) (len:=n) (cap:=n) p m F B D (ae0 _);simp only[Instr.sliceAt,ae8,run_underlying hd,ae9,Instr.sureAddr,C,bp A,afv];split<;>simp[Addr.add_mk]
 refine⟨λl off r=>?_,λi off l r y G=>?_⟩<;>subst r<;>simp only[VR]at k;obtain⟨b,o,rfl,g3⟩:=k;refine .same q (g b _) ?_;refine⟨_,_,rfl,ah3,ah4,.inr ⟨b,_,rfl,?_⟩⟩;by_cases z:n=(d.getD 0).toNat;have:(f.getD n).toNat-(d.getD 0).toNat=0:=ah3;rw[this];simp[VRC];rw[if_neg z,af3];exact(g3.drop _).take _;obtain⟨c,s,rfl⟩:=k;obtain⟨c',cs,ty,fr,u,J,O,K,M,I⟩:=q.blk i _ y;rw[s]at u;cases u;refine .same q (g c.blk _) ?_;refine⟨c,_,_,s,rfl,λH=>?_,ah3,ah4,?_⟩
 grind
 have N:(d.getD 0).toNat*sz+(n-(d.getD 0).toNat)*sz=n*sz:=by rw[<- af4];congr 1;omega
 omega
theorem kK(z:Array Value)(n:Nat):(Builtin.zeroCells z n).size=n*z.size:=by simp[Builtin.zeroCells]
theorem Rel.draw(a:Rel w0 S0 E L w)(n:Nat):Rel w0 S0 E L {w with drawn:=n}:=
 ⟨a.mem,λi k b=>bg.world (λ_ _=>rfl) (λ_ _ _ _=>rfl) (a.blk i k b),a.fresh,a.own,a.inj,a.tkfresh,a.tkown,a.tkloc,a.tkinj,a.frame,a.size,a.os,a.tape,a.output,a.glob,a.gsz⟩
theorem kD{t u e ty:TypeId}{sz n m c:Nat}{base:Option Addr}{x:Value}{cs:List Value}(i:P.underlying t=some (.slice e))(d:(∃f,P.underlying u=some (.slice f))\/P.underlying u=some .string)(h:bJ P e=some sz)(j:(Builtin.lenOf x).run P w=.ok n w)(g:(Builtin.firstCells sz n x).run P w=.ok ⟨cs⟩ w)(a:m+n<=c):
  (Builtin.append_ #[t,u] ty #[.slice base m c,x]).run P w=match base with
   |none=>.ok (.slice base (m+n) c) w
   |some b=>((storeCells (b.add (m*sz)) cs).run P w).andThen λ_ w'=>.ok (.slice base (m+n) c) w':=by
 unfold Builtin.append_;rcases d with⟨f,d⟩|d
 all_goals
  simp only[agW,afW,ahe,ae8,run_underlying i,run_underlying d,ae9,afv,bp h,afm,if_false,j,if_pos a,ahs,if_true,g];cases base with
  |none=>simp
  |some b=>simp
theorem v6{t u e ty:TypeId}{sz b n m c:Nat}{base:Option Addr}{x z:Value}{cs os:List Value}(G:P.underlying t=some (.slice e))(k:(∃v,P.underlying u=some (.slice v))\/P.underlying u=some .string)(B:bJ P e=some sz)(s:QO P e=some b)(C:∀W,(zeroValue e).run P W=.ok z W)(r:z.cells.size=sz)(D:(Builtin.lenOf x).run P w=.ok n w)(F:(Builtin.firstCells sz n x).run P {w with drawn:=w.drawn+1}=.ok ⟨cs⟩ {w with drawn:=w.drawn+1})(I:(Builtin.firstCells sz m (.slice base m c)).run P {w with drawn:=w.drawn+1}=.ok ⟨os⟩ {w with drawn:=w.drawn+1})(p:c<m+n)(j:(m+n)*b<=140737488355328)(o:m+n<=140737488355328):
  ∃a rest,m+n<=a/\rest.length=(a-(m+n))*sz/\(Builtin.append_ #[t,u] ty #[.slice base m c,x]).run P w =
   .ok (.slice (some ⟨w.heap.size,0,none⟩) (m+n) a) {w with heap:=w.heap.push (.cells ⟨(os++cs)++rest⟩ e),drawn:=w.drawn+1}:=by
 obtain⟨a,f⟩:∃a,a=(Question.appendCap (m+n) c e).cut (w.tape w.drawn (.appendCap (m+n) c e)):=⟨_,rfl⟩;have l:m+n<=a:=by rw[f];simp[Question.cut]
 refine⟨a,(Builtin.zeroCells z.cells (a-(m+n))).toList,l,by simp[kK,r],?_⟩;obtain⟨i,A,q⟩:∃i,P.info? e=some i/\i.bytes=b:=by unfold QO at s;simpa using s
 have h:∀W,(typeInfo e).run P W=.ok i W:=λW=>by simp[typeInfo,A]
 have y:=growslice_fits (need:=m+n) (old:=c) (bytes:=b) p j;have g:IntKind.i64.max=9223372036854775807:=by decide
 have E:¬(((m+n:Nat):Int)>IntKind.i64.max/\(False\/i.bytes=0)):=by rw[g];omega
 have H:¬(Builtin.nextslicecap (m+n) c*i.bytes>2^48):=by rw[q];omega
 unfold Builtin.append_;rcases k with⟨v,k⟩|k
 all_goals
  simp only[agW,afW,ahe,ae8,run_underlying G,run_underlying k,ae9,afv,bp B,afm,if_false,D,if_neg (show ¬(m+n<=c)by omega),h,ahs,if_true];simp only[if_neg E,if_neg H,h,afv,ae9,ae8,run_choose,Question.forced,afm,if_false,<- f,run_askRoom,I,F,C,newRow,run_newObj];have d:((⟨os⟩:Array Value)++(⟨cs⟩:Array Value)++Builtin.zeroCells z.cells (a-(m+n)))=⟨(os++cs)++(Builtin.zeroCells z.cells (a-(m+n))).toList⟩:=by simp
  rw[d]
theorem ZY{own:Nat}{t u e ty:TypeId}{sz bn:Nat}{z:List AV}{x y av:AV}{p v:Value}{c:Prop}{L':List Blk}(C:Rel w0 S0 E L w)(ht:P.underlying t=some (.slice e))(hu:(∃e',P.underlying u=some (.slice e'))\/P.underlying u=some .string)(hs:bJ P e=some sz)(hb:QO P e=some bn)(hz:zOf P e=some z)(cg:z.length=sz)(hx:VR E x p)(hy:VR E y v)(h:app own sz bn L x y=some (c,av,L'))(hc:c):
  bN P w0 S0 E L' av w (Builtin.append_ #[t,u] ty #[p,v]):=by
 have D:Rel w0 S0 E L {w with drawn:=w.drawn+1}:=C.draw _;obtain⟨zv,a8,cb,_⟩:=J3 (E:=E) hz;have a7:zv.cells.size=sz:=by have:=cb.length;simpa[cg]using this
 unfold app at h;split at h;cases h;rename_i c1 new n G;have fresh:∀(f:List AV) (os cs:List Value) (m r:Nat) (rest:List Value),VRL E f os->VRL E new cs->f.length=m*sz->new.length=n*sz->m+n<=r->rest.length=(r-(m+n))*sz->∀(L0:List Blk),Rel w0 S0 E L0 {w with drawn:=w.drawn+1} ->
   (∃E',E.le E'/\VR E' (.lsl L0.length 0 (m+n) none sz) (.slice (some ⟨w.heap.size,0,none⟩) (m+n) r)/\Rel w0 S0 E' (L0++[.cells (f++new)]) {w with heap:=w.heap.push (.cells ⟨(os++cs)++rest⟩ e),drawn:=w.drawn+1}):=by
  intro f os cs m r rest ho hn cy cm b7 hr L0 co;have bl:=ho.append hn
  .obtain⟨E',K,V,r3⟩:=sH co bl rest e (0,0) ah4;refine⟨E',K,?_,r3⟩;simp only[VR];refine⟨_,r,0,V,rfl,ah4,b7,ah4,?_⟩;have Q:=ho.length;have M:=hn.length;have:(m+n)*sz+(r-(m+n))*sz=r*sz:=by rw[<- af4];congr 1;omega
   grind
 have grown:∀(f:List AV) (os cs:List Value) (m r:Nat) (rest:List Value),VRL E f os->VRL E new cs->f.length=m*sz->new.length=n*sz->m+n<=r->rest.length=(r-(m+n))*sz ->
   ∃E',E.le E'/\Rel w0 S0 E' L {w with heap:=w.heap.push (.cells ⟨(os++cs)++rest⟩ e),drawn:=w.drawn+1}/\VRC E' (f++AV.frzL new) w.heap.size 0/\E'.tok=E.tok /\
    ∀i,(L++[Blk.dead])[i]?≠none->Yr w0 S0 E' L {w with heap:=w.heap.push (.cells ⟨(os++cs)++rest⟩ e),drawn:=w.drawn+1} i (m+n) sz (some ⟨w.heap.size,0,r*sz⟩):=by
  intro f os cs m r rest ho hn cy cm b7 hr;have ca:=VRL.frz _ _ hn;have bl:=ho.append ca;obtain⟨E',K,V,r3,r4,r5,r6⟩:=D.imm' (os++cs) e (f++AV.frzL new) bl rest (0,0);have Q:=ho.length;have M:=hn.length;have h4:(m+n)*sz+(r-(m+n))*sz=r*sz:=(by rw[<- af4];congr 1;omega);have S:(m+n)*sz=m*sz+n*sz:=af4 _ _ _;refine⟨E',K,V,r3,r5,λi _ k F=>?_⟩;cases F;refine⟨⟨_,e,(0,0),by simp;rfl,?_,ah4⟩,λo c5=>r6 o (by simp only[afc];omega),.inr C.size,λj k' c A hl b_=>?_,λj n' c6 t' k' _ A ci bk=>?_⟩
  .simp only[List.size_toArray,afc];omega
  .have:=C.loc_lt A hl (by rw[<- r4];exact b_);simp only;omega
  .have:=C.tok_lt A (by rw[<- r5];exact ci) bk;simp only;omega
 have keep:∀{i:Nat}{k:Blk},L[i]?=some k->(L++[Blk.dead])[i]?≠none:=λ{i k} hi=>by have:=(aeY.1 hi).1;simp;omega
 have a0:(AV.frzL new).length=new.length:=AV.frzL_length _;split at h;rename_i l m k;have B:=hx;simp only[VR]at B;obtain⟨X,c',rfl,g1,g2,g3⟩:=B;have:=g2 k rfl;subst this;by_cases a4:own=2;subst a4;simp only[reduceIte,Nat.reduceEqDiff]at h;split at h;rename_i I;subst I;simp only[aeZ,afb]at h;obtain⟨rfl,rfl,rfl⟩:=h;obtain⟨Q,M,cs,S,h4⟩:=ba (P:=P) C hy G hc.1;have:cs=[]:=by have:=S.length;simp at M;simpa[M]using this
 subst this;refine .same C (v:=.slice X m c') ?_ hx;rw[kD (ty:=ty) ht hu hs Q h4 ah3];cases X<;>simp[storeCells];rename_i I;simp only[aeZ,afb,QT]at h;obtain⟨rfl,rfl,rfl⟩:=h;obtain⟨Z,k2,W,k4,k5⟩:=hc;subst k2;obtain⟨Q,M,_,_,_⟩:=ba (P:=P) C hy G Z;obtain⟨_,_,cs,S,h4⟩:=ba (P:=P) D hy G Z;obtain⟨_,_,os,q3,q4⟩:=ba (P:=P) (sz:=sz) (c:=l.length=m*sz) (l:=l) (n:=m) D hx rfl W;obtain⟨r,rest,j1,j2,j3⟩:=v6 (P:=P) (w:=w) (ty:=ty) (m:=m) (c:=m) (base:=X) (os:=os) ht hu hs hb a8 a7 Q h4 q4 ah3 k4 k5;obtain⟨E1,a1,a2,a3⟩:=fresh l os cs m r rest q3 S W M j1 j2 L D;exact⟨E1,_,_,j3,a1,a2,a3⟩;simp only[if_neg a4]at h;have c3:c1/\m=c'/\l.length=m*sz/\(m+n)*bn<=140737488355328/\m+n<=140737488355328:=by split at h<;>simp only[aeZ,afb]at h<;>obtain⟨rfl,_⟩:=h<;>exact hc
 obtain⟨Z,k2,W,k4,k5⟩:=c3;subst k2;obtain⟨Q,M,J,ab,a9⟩:=ba (P:=P) C hy G Z;have ai:(m+n)*sz=m*sz+n*sz:=af4 _ _ _;rcases agf n with I|I;subst I;have O:new=[]:=by simpa using M
 subst O;have:J=[]:=by have:=ab.length;simpa using this
 subst this;have g:(Builtin.append_ #[t,u] ty #[.slice X m m,v]).run P w=.ok (.slice X m m) w:=by rw[kD (ty:=ty) ht hu hs Q a9 ah3];cases X<;>simp[storeCells]
 split at h<;>simp only[aeZ,afb]at h<;>obtain⟨rfl,rfl,rfl⟩:=h;obtain⟨K,V⟩:=C.addtok (n:=m+0) (sz:=sz) (lc:=none) Nm;refine⟨_,_,_,g,K,?_,V⟩;simp only[VR,AV.frzL,afq,agk];refine⟨X,m,rfl,ae0 _,W,g3.imp id λ⟨b,o,q1,q2⟩=>⟨b,o,q1,VRC.mono K _ _ _ q2⟩,⟨m+0,sz,none⟩,ah4,ah4,λ_=>⟨rfl,λ_=>rfl,ah4⟩⟩;refine .same C g ?_;simp only[VR,AV.frzL,afq,agk];exact⟨X,m,rfl,ae0 _,ah4,g3⟩;obtain⟨_,_,cs,S,h4⟩:=ba (P:=P) D hy G Z;obtain⟨_,_,os,q3,q4⟩:=ba (P:=P) (sz:=sz) (c:=l.length=m*sz) (l:=l) (n:=m) D hx rfl W;obtain⟨r,rest,j1,j2,j3⟩:=v6 (P:=P) (w:=w) (ty:=ty) (m:=m) (c:=m) (base:=X) (os:=os) ht hu hs hb a8 a7 Q h4 q4 ah3 k4 k5;obtain⟨E2,b1,b2,b3,b5,b4⟩:=grown l os cs m r rest q3 S W M j1 j2;split at h<;>simp only[aeZ,afb]at h<;>obtain⟨rfl,rfl,rfl⟩:=h;obtain⟨K,V⟩:=b2.addtok (n:=m+n) (sz:=sz) (b4 L.length ah4);refine⟨_,_,_,j3,b1.trans K,?_,V⟩;simp only[VR];exact⟨_,r,rfl,j1,by simp only[afc,a0];omega,.inr ⟨_,0,rfl,VRC.mono K _ _ _ b3⟩,⟨m+n,sz,some ⟨w.heap.size,0,r*sz⟩⟩,ah4,ah4,λ_=>⟨rfl,ah4,λk F=>by cases F;exact⟨rfl,ae0 _⟩⟩⟩;refine⟨E2,_,_,j3,b1,?_,b2⟩;simp only[VR];exact⟨_,r,rfl,j1,ah4,.inr ⟨_,0,rfl,b3⟩⟩;rename_i l m i s;split at h;rename_i R s' T;simp only[aeZ,afb]at h;obtain⟨rfl,rfl,rfl⟩:=h;obtain⟨Z,N,rfl,rfl,rfl,k4,k5⟩:=hc;obtain⟨cd,W⟩:=hx.gsl_sl;have B:=hx;simp only[VR]at B;obtain⟨X,H,rfl,g1,_,g3,tk,g4,g5,g6⟩:=B;obtain⟨c4,e1,e2,e3,e4⟩:=C.blk i _ T;rw[g4]at e1;cases e1;obtain⟨g7,g8,g9⟩:=g6 e2.symm;obtain⟨Q,M,J,ab,a9⟩:=ba (P:=P) C hy G Z;have ai:(R+n)*s'=R*s'+n*s':=af4 _ _ _;rcases agf n with I|I;subst I;have O:new=[]:=by simpa using M
 subst O;have:J=[]:=by have:=ab.length;simpa using this
 subst this;have g:(Builtin.append_ #[t,u] ty #[.slice X R H,v]).run P w=.ok (.slice X R H) w:=by rw[kD (ty:=ty) ht hu hs Q a9 ah3];cases X<;>simp[storeCells]
 refine .same ?_ g ?_;have:L.set i (.spare (R+0) s')=L:=by apply af1;intro j;rw[afC];split;rename_i e;subst e;rw[T];have:=(aeY.1 T).1;simp[this];rfl
 rw[this];exact C;simpa[AV.frzL]using hx;by_cases q:R+n<=H;have b9:∃k,tk.loc=some k:=by rcases hq:tk.loc with _|k;have:=g8 hq;omega;exact⟨k,rfl⟩
 obtain⟨k,F⟩:=b9;obtain⟨rfl,cv⟩:=g9 k F;obtain⟨cp,ck,cx,b1,b2,b3⟩:=e4 k F;have al:=ab.length;have cq:(R+n)*s'<=H*s':=agi _ q;obtain⟨w',U,K,V,r3,r4,r5,r6,r7,r8,r9⟩:=ju (P:=P) (b:=k.blk) (ty:=ck) (fr:=cx) J w cp (0+R*s') 0 b1 (λv hv=>by obtain⟨j,A⟩:=agD.1 hv;have a5:j<new.length:=(by have:=(aeY.1 A).1;omega);obtain⟨y,h7,h8⟩:=ab.get (afn a5);rw[A]at h7;cases h7;exact h8.one (afd.1 N _ (age a5))) ah3 (λo h7 h8=>b3 o ah3 ah3)
 have g:(Builtin.append_ #[t,u] ty #[.slice (some ⟨k.blk,0,none⟩) R H,v]).run P w=.ok (.slice (some ⟨k.blk,0,none⟩) (R+n) H) w':=by rw[kD (ty:=ty) ht hu hs Q a9 q];simp only[Addr.add_mk,K,ae9]
 obtain⟨E',q1,q2,q3,q4⟩:=C.tokwrite (w':=w') T g4 F (n:=R+n) ah3 b1 V r3 r4 r5 r6 r7 r8 (λo ho=>by rw[r9,if_neg ah3]);refine⟨E',_,_,g,q1,?_,q2⟩;simp only[VR];refine⟨_,H,rfl,q,by simp only[afc,a0];omega,.inr ⟨k.blk,0,rfl,VRC.of_get λj a Y=>?_⟩,_,q3,ae0 _,λ_=>⟨rfl,ah4,λk' bk=>by cases bk;exact⟨rfl,cv⟩⟩⟩;rw[agh]at Y;split at Y;rename_i A;rcases g3 with⟨_,_,e⟩|⟨b,o,e,g3⟩;subst e;simp at A;cases e;obtain⟨y,f1,f2⟩:=(VRC.mono q1 _ _ _ g3).get Y;exact⟨y,f1,f2⟩;rename_i A;obtain⟨y,f1,f2⟩:=(VRL.frz _ _ ab).get Y;have cn:=(aeY.1 Y).1;refine⟨y,?_,VR.mono q1 _ _ f2⟩;rw[q4 _ ah3 ah3,r9,if_pos ah3,<- f1];congr 1;omega;obtain⟨_,_,cs,S,h4⟩:=ba (P:=P) D hy G Z;obtain⟨_,_,os,q3,q4⟩:=ba (P:=P) (sz:=s') (c:=l.length=R*s') (l:=l) (n:=R) D cd rfl W;obtain⟨r,rest,j1,j2,j3⟩:=v6 (P:=P) (w:=w) (ty:=ty) (m:=R) (c:=H) (base:=X) (os:=os) ht hu hs hb a8 a7 Q h4 q4 ah3 k4 k5;obtain⟨E2,b1,b2,b3,b5,b4⟩:=grown l os cs R r rest q3 S W M j1 j2;obtain⟨K,V⟩:=b2.settok (n:=R+n) (sz:=s') ⟨_,_,T⟩ (λt2 a6=>by rw[b5,g4]at a6;cases a6;omega) (b4 i (keep T))
 refine⟨_,_,_,j3,b1.trans K,?_,V⟩;simp only[VR];exact⟨_,r,rfl,j1,by simp only[afc,a0];omega,.inr ⟨_,0,rfl,VRC.mono K _ _ _ b3⟩,⟨R+n,s',some ⟨w.heap.size,0,r*s'⟩⟩,ah4,ah4,λ_=>⟨rfl,ah4,λk F=>by cases F;exact⟨rfl,ae0 _⟩⟩⟩;cases h;rename_i i off m cap s;split at h;rename_i l T;split at h;rename_i c0;subst c0;by_cases an:own=4;rw[if_pos an]at h;rcases cap with _|c2;cases h;simp only[aeZ,afb]at h;obtain⟨rfl,rfl,rfl⟩:=h;obtain⟨Z,N,k2,W⟩:=hc;have B:=hx;simp only[VR]at B;obtain⟨cl,H,d,g0,rfl,g1,g2,g3,g4⟩:=B;have bx:=g3 c2 rfl;subst bx;obtain⟨Q,M,cs,S,h4⟩:=ba (P:=P) C hy G Z;have ai:(m+n)*s=m*s+n*s:=af4 _ _ _;have al:=S.length;obtain⟨w',K,V⟩:∃w',(storeCells ((⟨cl.blk,d,none⟩:Addr).add (m*s)) cs).run P w=.ok () w'/\Rel w0 S0 E (L.set i (.cells (bS l (off+m*s) new))) w':=by
  by_cases bo:H=0;have I:n=0:=ah3;subst I;have O:new=[]:=afK.1 (by rw[M];simp);subst O;have ad:cs=[]:=(by simpa using al);subst ad;refine⟨w,by simp[storeCells],?_⟩;have e1:bS l (off+m*s) []=l:=(by simp[bS]);rw[e1];have e2:L.set i (.cells l)=L:=by apply af1;intro j;rw[afC];split;rename_i e;subst e;rw[T];have:=(aeY.1 T).1;simp[this];rfl
  rw[e2];exact C;have hd:=g1 bo;subst hd;rw[Addr.add_mk,af3];exact J9 (P:=P) (off:=off+m*s) C T g0 S (λx hx=>afd.1 N x hx) (by rw[M];omega)
 have g:(Builtin.append_ #[t,u] ty #[.slice (some ⟨cl.blk,d,none⟩) m H,v]).run P w=.ok (.slice (some ⟨cl.blk,d,none⟩) (m+n) H) w':=by rw[kD (ty:=ty) ht hu hs Q h4 W];simp only[K,ae9]
 refine⟨E,_,w',g,.refl E,?_,V⟩;simp only[VR];exact⟨cl,H,d,g0,rfl,g1,W,g3,g4⟩;rw[if_neg an]at h;simp only[aeZ,afb,QT]at h;obtain⟨rfl,rfl,rfl⟩:=h;obtain⟨Z,N,k2,W,k4⟩:=hc;have B:=hx;simp only[VR]at B;obtain⟨cl,H,d,g0,rfl,g1,g2,g3,g4⟩:=B;obtain⟨Q,M,cs,S,h4⟩:=ba (P:=P) C hy G Z;by_cases q:m+n<=H;have a_:((l.drop off).take (m*s)).length=m*s:=by simp;omega
 obtain⟨c7,J,bd,fr,b1,b2,b3,b4,b5,b6⟩:=C.blk i _ T;rw[g0]at b1;cases b1;have bb:=C.own i _ cl T rfl g0;have al:=S.length;have ai:(m+n)*s=m*s+n*s:=af4 _ _ _;have cq:(m+n)*s<=H*s:=agi _ q;have hd:(some (⟨cl.blk,d,none⟩:Addr)).map (·.add (m*s))=some ⟨cl.blk,d+m*s,none⟩:=by simp[Addr.add_mk]
 obtain⟨w',U,K,V,r3,r4,r5,r6,r7,r8,r9⟩:∃w' U,(storeCells ((⟨cl.blk,d,none⟩:Addr).add (m*s)) cs).run P w=.ok () w'/\w'.heap.size=w.heap.size/\(∀k,k≠cl.blk->w'.heap[k]?=w.heap[k]?)/\w'.os=w.os/\w'.tape=w.tape/\w'.output=w.output /\
   w'.heap[cl.blk]?=some (.cells U bd fr)/\U.size=J.size/\∀k,U[k]?=if cl.off+off+m*s<=k/\k<cl.off+off+m*s+cs.length then cs[k-(cl.off+off+m*s)]? else J[k]?:=by
  by_cases bo:H=0
  .have ad:cs=[]:=by
    have h0 : n * s = 0 := by have : n = 0 := by omega
                              rw[this];simp
    rw[M,h0]at al;simpa using al
   subst ad;exact⟨w,J,by simp[storeCells],rfl,λ_ _=>rfl,rfl,rfl,rfl,b2,rfl,λk=>by rw[if_neg ah4]⟩
  .have hd:=g1 bo;subst hd;rw[Addr.add_mk];have:=ju (P:=P) (b:=cl.blk) (ty:=bd) (fr:=fr) cs w J (cl.off+off+m*s) 0 b2 (λv hv=>by obtain⟨j,A⟩:=agD.1 hv;have a5:j<new.length:=(by have:=(aeY.1 A).1;omega);obtain⟨y,h7,h8⟩:=S.get (afn a5);rw[A]at h7;cases h7;exact h8.one (afd.1 N _ (age a5))) ah3 (λk h7 h8=>b6 k ah3 ah3)
   simpa using this
 have g:(Builtin.append_ #[t,u] ty #[.slice (some ⟨cl.blk,d,none⟩) m H,v]).run P w=.ok (.slice (some ⟨cl.blk,d,none⟩) (m+n) H) w':=by rw[kD (ty:=ty) ht hu hs Q h4 q];simp only[K,ae9]
 have F:=C.turn (w':=w') (k':=.dead) T rfl g0 V r3 r4 r5 r6 (by simp[bg]) ah4;have b':=F.add (.cells ((l.drop off).take (m*s)++new)) ⟨cl.blk,cl.off+off,cl.size⟩ bb.1 bb.2 (λj k' d' A b0 cf=>by
  rw[afC]at A;split at A;split at A;cases A;simp[Blk.live]at b0;cases A;rename_i bs;intro e;exact bs (C.inj _ _ _ _ _ _ T rfl A b0 g0 cf e.symm)) rfl (λj n2 s2 t2 d A a6 ch=>C.tkloc j n2 s2 t2 d i _ cl (fa ah4 A) a6 ch T rfl g0) (by
  refine⟨⟨cl.blk,cl.off+off,cl.size⟩,U,bd,fr,ah4,r7,by simpa using r8.trans b3,by simp only[afc,a_];omega,λj a' Y=>?_,λo h5 h6=>b6 o (by simp at h5;omega) h6⟩;have ap:∀x y,VR E x y->VR {E with loc:=λi'=>if i'=(L.set i .dead).length then some ⟨cl.blk,cl.off+off,cl.size⟩else E.loc i'} x y:=λx y ct=>VR.mono (Env.le_loc _ (F.fresh _ (ae0 _))) _ _ ct
  show ∃v,U[cl.off+off+j]?=some v/\_;rw[r9];rw[agh]at Y;rw[a_]at Y;by_cases A:j<m*s;rw[if_pos A,afz A,afE]at Y;rw[if_neg ah3];obtain⟨x,e1,e2⟩:=b5 _ _ Y;exact⟨x,by rw[<- e1];congr 1;omega,ap _ _ e2⟩;rw[if_neg A]at Y;have cn:=(aeY.1 Y).1;rw[if_pos ah3];obtain⟨x,e1,e2⟩:=S.get Y;exact⟨x,by rw[<- e1];congr 1;omega,ap _ _ e2⟩)
 refine⟨_,_,w',g,b'.1,?_,by simpa using b'.2⟩;simp only[VR];refine⟨⟨cl.blk,cl.off+off,cl.size⟩,H,d,ah4,rfl,λbs=>by simpa using g1 bs,q,ah4,?_⟩;simpa using g4;obtain⟨_,_,cs,S,h4⟩:=ba (P:=P) D hy G Z;obtain⟨_,q2,os,q3,q4⟩:=ba (P:=P) (sz:=s) (c:=off+m*s<=l.length) (l:=(l.drop off).take (m*s)) (n:=m) D hx (by simp only[elems,T]) k2;obtain⟨r,rest,j1,j2,j3⟩:=v6 (P:=P) (w:=w) (ty:=ty) (m:=m) (c:=H) (base:=some ⟨cl.blk,d,none⟩) (os:=os) ht hu hs hb a8 a7 Q h4 q4 ah3 W k4;have F:Rel w0 S0 E (L.set i .dead) {w with drawn:=w.drawn+1}:=D.kill ah4 λj k F=>by rw[afC]at F;split at F;split at F;cases F;exact .inl rfl;cases F;exact .inr F
 obtain⟨E1,a1,a2,a3⟩:=fresh _ os cs m r rest q3 S q2 M j1 j2 (L.set i .dead) F;exact⟨E1,_,_,j3,a1,by simpa using a2,a3⟩;cases h;cases h;cases h
theorem X4{t u e ty:TypeId}{sz f i off m cp:Nat}{z l:List AV}{p v:Value}{j q:IntKind}{k:Int}(hR:Rel w0 S0 E L w)(Z:P.underlying t=some (.slice e))(hu:P.underlying u=some (.int j))(hs:bJ P e=some sz)(N:QO P e=some f)(hz:zOf P e=some z)(H:z.length=sz)(V:VR E (.lsl i off m (some cp) sz) p)(K:VR E (.int q k) v)(X:L[i]?=some (.cells l))(Y:0<=k/\k<=1099511627776/\cp<m+k.toNat/\off+m*sz<=l.length/\(m+k.toNat)*f<=140737488355328/\m+k.toNat<=140737488355328):
  bN P w0 S0 E (L++[.cells ((l.drop off).take (m*sz)++di z k.toNat)]) (.lsl L.length 0 (m+k.toNat) none sz) w (Builtin.append_ #[t,u] ty #[p,v]):=by
 obtain⟨c1,c2,M,c4,c5,c6⟩:=Y;have D:Rel w0 S0 E L {w with drawn:=w.drawn+1}:=hR.draw _;obtain⟨a,G,x,_⟩:=J3 (E:=E) hz;have h:a.cells.size=sz:=by have:=x.length;simpa[H]using this
 simp only[VR]at K;subst K;have y:=V;simp only[VR]at y;obtain⟨cl,r,d,g0,rfl,g1,g2,g3,g4⟩:=y;have:=g3 cp rfl;subst this;obtain⟨_,q2,os,S,q4⟩:=ba (P:=P) (sz:=sz) (c:=off+m*sz<=l.length) (l:=(l.drop off).take (m*sz)) (n:=m) D V (by simp only[elems,X]) c4;obtain⟨n,T⟩:∃n,n=k.toNat:=⟨_,rfl⟩;rw[<- T]at M c5 c6⊢;obtain⟨b,A⟩:∃b,b=(Question.appendCap (m+n) r e).cut (w.tape w.drawn (.appendCap (m+n) r e)):=⟨_,rfl⟩;have I:m+n<=b:=by rw[A];simp[Question.cut]
 obtain⟨g,hi,J⟩:∃i,P.info? e=some i/\i.bytes=f:=by unfold QO at N;simpa using N
 have s:∀W,(typeInfo e).run P W=.ok g W:=λW=>by simp[typeInfo,hi]
 have U:=growslice_fits (need:=m+n) (old:=r) (bytes:=f) M c5;have B:IntKind.i64.max=9223372036854775807:=by decide
 have hw:IntKind.i64.wrap k=k:=by simp only[IntKind.wrap,IntKind.bits,IntKind.signed];simp;omega
 have ab:(n:Int)=k:=ah3;have Q:k*(g.bytes:Int)<=2^48:=by grind
 have n0:¬k<0:=ah3;have n3:¬k*(g.bytes:Int)>2^48:=ah3;have n1:¬(((m+n:Nat):Int)>IntKind.i64.max/\True):=by rw[B];omega
 have n2:¬(Builtin.nextslicecap (m+n) r*g.bytes>2^48):=by rw[J];omega
 have o:∀W,(if n*sz=0 then(pure #[]:Sem (Array Value))else do pure (Builtin.zeroCells (<- zeroValue e).cells n)).run P W=.ok (Builtin.zeroCells a.cells n) W:=λW=>by
  by_cases O:n*sz=0;rw[if_pos O];have:Builtin.zeroCells a.cells n=#[]:=by apply Array.eq_empty_of_size_eq_zero;rw[kK,h,O]
  simp_all;simp_all
 have F:(Builtin.append_ #[t,u] ty #[.slice (some ⟨cl.blk,d,none⟩) m r,.int q k]).run P w =
   .ok (.slice (some ⟨w.heap.size,0,none⟩) (m+n) b) {w with heap:=w.heap.push (.cells ⟨(os++(Builtin.zeroCells a.cells n).toList)++(Builtin.zeroCells a.cells (b-(m+n))).toList⟩ e),drawn:=w.drawn+1}:=by
  unfold Builtin.append_;simp only[agW,afW,ahe,ae8,run_underlying Z,run_underlying hu,ae9,afv,bp hs,if_true,asInt,asIntOf,hw,if_neg n0,s,if_neg n3,<- T];simp only[if_neg (show ¬(m+n<=r)by omega),ahf,afm,if_false,true_or];simp only[if_neg n1,afv,ae8,s,ae9,if_neg n2,run_choose,Question.forced,afm,if_false,<- A,run_askRoom,q4,o,G,newRow,run_newObj];have R:((⟨os⟩:Array Value)++Builtin.zeroCells a.cells n++Builtin.zeroCells a.cells (b-(m+n)))=⟨(os++(Builtin.zeroCells a.cells n).toList)++(Builtin.zeroCells a.cells (b-(m+n))).toList⟩:=by simp
  grind
 have C:VRL E (di z n) (Builtin.zeroCells a.cells n).toList:=by have:=Kh x n;simpa[Builtin.zeroCells]using this
 obtain⟨E',r1,r2,r3⟩:=sH D (S.append C) (Builtin.zeroCells a.cells (b-(m+n))).toList e (0,0) ah4;refine⟨E',_,_,F,r1,?_,r3⟩;simp only[VR];refine⟨_,b,0,r2,rfl,ah4,I,ah4,?_⟩;have h1:=S.length;have h2:((Builtin.zeroCells a.cells n).toList).length=n*sz:=by simp[kK,h]
 have h5:((Builtin.zeroCells a.cells (b-(m+n))).toList).length=(b-(m+n))*sz:=by simp[kK,h]
 have:(m+n)*sz+(b-(m+n))*sz=b*sz:=by rw[<- af4];congr 1;omega
 have h3:(m+n)*sz=m*sz+n*sz:=af4 _ _ _;simp only[afc,h2,h5];omega
end
section
variable {P:Program}{w0:World}{S0:SB}{E:Env}{L:List Blk}{w:World}{T:Tm}{a:Act}
def dE(P:Program)(w0:World)(S0:SB)(E:Env)(L':List Blk)(av:AV)(w:World)(s:Sem Next):Prop :=
 ∃E' v w',(s.run P w=.ok (.value v) w'\/(s.run P w=.ok .skip w'/\v=undef))/\E.le E'/\VR E' av v/\Rel w0 S0 E' L' w'
theorem bN.done{L':List Blk}{av:AV}{s:Sem Value}(h:bN P w0 S0 E L' av w s):dE P w0 S0 E L' av w (do pure (.value (<- s))):=by obtain⟨E',v,w',b,a⟩:=h;exact⟨E',v,w',.inl (by simp[b]),a⟩
theorem sO:∀{xs:List Operand}{c:List Opd}{l:List AV},nS xs=some c->iR T c=some l->TR E T a->VRL E l (xs.map a.eval)
 |[],c,l,h,hv,_=>by simp[nS]at h;subst h;simp[iR]at hv;subst hv;rfl
 | x::xs,c,l,h,hv,hT=>by
   simp only[nS,ahq]at h;rcases h1:aZ x with _|y
   .simp_all
   .rcases h2:xs.mapM aZ with _|d
    .simp_all
    .simp[h1,h2]at h;subst h;simp only[iR]at hv;split at hv<;>simp at hv;rename_i b m e h4;subst hv;exact⟨_,_,rfl,ah h1 e hT,sO (by simpa[nS]using h2) h4 hT⟩
theorem OH{sz:Nat}{x:AV}{v:Value}{c:Prop}{l:List AV}{n:Nat}(k:Nat)(D:k<=n)(B:Rel w0 S0 E L w)(g:VR E x v)(h:elems L sz x=some (c,l,n))(M:c):
  ∃cs,VRL E (l.take (k*sz)) cs/\cs.length=k*sz/\(Builtin.firstCells sz k v).run P w=.ok ⟨cs⟩ w:=by
 have O:k*sz<=n*sz:=agi _ D;unfold elems at h;split at h;simp only[aeZ,afb]at h;obtain⟨rfl,rfl,rfl⟩:=h;simp only[VR]at g;subst g;have:k=0:=ah3;subst this;exact⟨[],by simp[VRL],ah4,by simp[Builtin.firstCells]⟩;rename_i l m cap;simp only[aeZ,afb]at h;obtain⟨rfl,rfl,rfl⟩:=h;exact(Kc (P:=P) B g M D).2;rename_i l m i s;simp only[aeZ,afb]at h;obtain⟨rfl,rfl,rfl⟩:=h;subst M;exact(Kc (P:=P) B g.gsl_sl.1 g.gsl_sl.2 D).2;rename_i i off m cap s;split at h;rename_i u C;simp only[aeZ,afb]at h;obtain⟨rfl,rfl,rfl⟩:=h;simp only[VR]at g;obtain⟨q,R,d,r,rfl,K,S,h4,Q⟩:=g;obtain⟨k',I,ty,fr,g1,G,g3,g4,H,N⟩:=B.blk i _ C;rw[r]at g1;cases g1;have e:(((u.drop off).take (m*sz)).take (k*sz)).length=k*sz:=by simp;omega
 rcases agf k with y|y;subst y;exact⟨[],by simp[VRL],ah4,by simp[Builtin.firstCells,loadCells,loadCellsFrom]⟩;have hd:=K ah3;subst hd;obtain⟨cs,z,p⟩:=iP (P:=P) (w:=w) (b:=q.blk) (o:=q.off+off) (l:=((u.drop off).take (m*sz)).take (k*sz)) λj a f=>by have A:j<k*sz:=(by have:=(aeY.1 f).1;omega);rw[afz A,afz ah3,afE]at f;obtain⟨x,t,F⟩:=H _ _ f;refine⟨x,?_,F⟩;rw[<- af3]at t;simp[World.cell?,G,t]
 exact⟨cs,z,by rw[z.length,e],by rw[e]at p;simpa[Builtin.firstCells]using p⟩;rename_i u C;simp only[aeZ,afb]at h;obtain⟨rfl,rfl,rfl⟩:=h;simp only[VR]at g;obtain⟨q,R,d,r,rfl,K,S,h4,Q⟩:=g;obtain⟨k',I,ty,fr,g1,G,g3,g4,H,N⟩:=B.blk i _ C;rw[r]at g1;cases g1;have e:(((u.drop off).take (m*sz)).take (k*sz)).length=k*sz:=by simp;omega
 rcases agf k with y|y;subst y;exact⟨[],by simp[VRL],ah4,by simp[Builtin.firstCells,loadCells,loadCellsFrom]⟩;have hd:=K ah3;subst hd;obtain⟨cs,z,p⟩:=iP (P:=P) (w:=w) (b:=q.blk) (o:=q.off+off) (l:=((u.drop off).take (m*sz)).take (k*sz)) λj a f=>by have A:j<k*sz:=(by have:=(aeY.1 f).1;omega);rw[afz A,afz ah3,afE]at f;obtain⟨x,t,F⟩:=H _ _ f;refine⟨x,?_,F⟩;rw[<- af3]at t;simp[World.cell?,G,t]
 exact⟨cs,z,by rw[z.length,e],by rw[e]at p;simpa[Builtin.firstCells]using p⟩;cases h;split at h;rename_i s J;simp only[aeZ,afb]at h;obtain⟨rfl,rfl,rfl⟩:=h;simp only[VR]at g;subst g;subst J;refine⟨(s.map λb=>Value.int .u8 b.toNat).take k,?_,by simp;omega,?_⟩;refine VRL.of_get (by simp[u8s]) λi a f=>?_
 have A:i<k:=by have:=(aeY.1 f).1;simp at this;omega
 simp only[Nat.mul_one]at f;rw[afz A]at f⊢;simp only[u8s,afS,afr]at f⊢;obtain⟨b,r,rfl⟩:=f;exact⟨_,⟨b,r,rfl⟩,rfl⟩;simp only[Builtin.firstCells,afv];simp;cases h;cases h
theorem RV{t u e ty:TypeId}{sz n:Nat}{x y:AV}{p v:Value}{c:Prop}{new:List AV}(q:Rel w0 S0 E L w)(H:P.underlying t=some (.slice e))(C:bJ P e=some sz)(o:VR E x p)(s:VR E y v)(b:elems L sz y=some (c,new,n))(r:c):
  (x=.nilsl->bN P w0 S0 E L (.int .i64 0) w (Builtin.copy_ #[t,u] ty #[p,v])) /\
  (∀ i off m cap l,x=.lsl i off m cap sz->L[i]?=some (.cells l)->off+m * sz<=l.length->(new.take (min n m * sz)).all AV.one=true ->
   bN P w0 S0 E (L.set i (.cells (bS l off (new.take (min n m*sz))))) (.int .i64 (min n m:Nat)) w (Builtin.copy_ #[t,u] ty #[p,v])):=by
 obtain⟨D,U,_,_,_⟩:=ba (P:=P) q s b r;refine⟨λF=>?_,λi off m cap l F J S j=>?_⟩<;>subst F<;>simp only[VR]at o;subst o;obtain⟨f,_,_,N⟩:=OH (P:=P) 0 (ae5 _) q s b r;refine .same q (v:=.int .i64 0) ?_ (by simp[VR]);simp[Builtin.copy_,run_underlying H,D,bp C,N,goInt];obtain⟨cl,G,d,K,rfl,g1,T,g3,g4⟩:=o;obtain⟨f,k,g,Q⟩:=OH (P:=P) (min n m) (Nat.min_le_left _ _) q s b r;have I:min n m*sz<=m*sz:=agi _ (Nat.min_le_right _ _);have z:min n m*sz<=n*sz:=agi _ (Nat.min_le_left _ _);have h:(new.take (min n m*sz)).length=min n m*sz:=by simp;omega
 have a:(Builtin.copy_ #[t,u] ty #[.slice (some ⟨cl.blk,d,none⟩) m G,v]).run P w=((storeCells ⟨cl.blk,d,none⟩ f).run P w).andThen λ_ w'=>.ok (.int .i64 (min n m:Nat)) w':=by unfold Builtin.copy_;simp only[agW,afW,ahe,ae8,run_underlying H,ae9,bp C,D,show Nat.min n m=min n m from rfl,Q];rfl
 by_cases O:min n m*sz=0;have A:f=[]:=by rw[O]at g;simpa using g
 subst A;refine⟨E,.int .i64 (min n m:Nat),w,by rw[a];simp[storeCells],.refl E,by simp[VR],?_⟩;have:bS l off []=l:=by simp[bS]
 have:L.set i (.cells l)=L:=by
  apply af1
  grind
 simp[*];have B:G≠0:=by grind
 have hd:=g1 B;subst hd;obtain⟨w',R,M⟩:=J9 (P:=P) (off:=off) q J K k (λx o=>afd.1 j x o) (by rw[h];omega);exact⟨E,.int .i64 (min n m:Nat),w',by rw[a,R];rfl,.refl E,by simp[VR],M⟩
theorem Ry{z:List AV}(h:∀a∈z,AV.one a=true):∀n,∀a∈di z n,AV.one a=true
 |0,a,ha=>by simp[di]at ha
 |n+1,a,ha=>by simp only[di,ae2]at ha;exact ha.elim (h a) (Ry h n a)
theorem Qg{t e ty:TypeId}{sz:Nat}{z:List AV}{x:AV}{p:Value}(o:Rel w0 S0 E L w)(b:P.underlying t=some (.slice e))(C:bJ P e=some sz)(r:zOf P e=some z)(g:z.length=sz)(j:VR E x p):
  (x=.nilsl->bN P w0 S0 E L (.tup []) w (Builtin.clear_ #[t] ty #[p])) /\
  (∀ i off m cap l,x=.lsl i off m cap sz->L[i]?=some (.cells l)->off+m * sz<=l.length ->
   bN P w0 S0 E (L.set i (.cells (bS l off (di z m)))) (.tup []) w (Builtin.clear_ #[t] ty #[p])):=by
 obtain⟨s,c,h,f⟩:=J3 (E:=E) r;refine⟨λk=>?_,λi off m cap l k q B=>?_⟩<;>subst k<;>simp only[VR]at j;subst j;exact .same o (v:=.tuple #[]) (by simp[Builtin.clear_,run_underlying b]) ⟨[],rfl,rfl⟩;obtain⟨cl,F,d,u,rfl,g1,D,g3,g4⟩:=j;rcases agf m with n|n;subst n;refine⟨E,.tuple #[],w,by simp[Builtin.clear_,run_underlying b],.refl E,⟨[],rfl,rfl⟩,?_⟩;have:bS l off (di z 0)=l:=by simp[bS,di]
 have:L.set i (.cells l)=L:=by
  apply af1
  grind
 simp[*];have hd:=g1 ah3;subst hd;have a:VRL E (di z m) (Builtin.zeroCells s.cells m).toList:=by have:=Kh h m;simpa[Builtin.zeroCells]using this
 obtain⟨w',A,y⟩:=J9 (P:=P) (off:=off) o q u a (Ry f m) (by rw[kO,g];omega);refine⟨E,.tuple #[],w',?_,.refl E,⟨[],rfl,rfl⟩,y⟩;cases m with
 |zero=>omega
 | succ m =>
   unfold Builtin.clear_;simp only[agW,afW,ae8,run_underlying b,ae9,c,A,afv]
end
open Go Go.MapKept
section
variable {P:Program}{w0:World}{S0:SB}{E:Env}{L:List Blk}{w:World}{T:Tm}{a:Act}
def GW(P:Program):Nat->List Field->List zB->Prop
 |_,[],[]=>True
 | i,f::fs,k::ks=>f.offset=i/\f.name ≠ "_" /\ Vn P f.type=some k/\GW P (i+1) fs ks
 |_,_,_=>False
theorem TX:∀{b:List Field}{i:Nat}{a:List zB},TY P i b=some a->GW P i b a
 |[],i,a,h=>by simp only[TY,aeZ]at h;subst h;trivial
 | f::b,i,a,h=>by
   simp only[TY]at h;split at h
   .rename_i hc;split at h
    .rename_i k ks' h1 h2;simp only[aeZ]at h;subst h;exact⟨hc.1,hc.2,h1,TX h2⟩
    .cases h
   .cases h
theorem MN{b:TypeId}{c:List zB}(h:fH P b=some (.st c)):∃a:Array Field,P.underlying b=some (.struct a)/\P.stoodInHeld b=false/\GW P 0 a.toList c:=by
 unfold fH at h;split at h<;>try simp only[aeZ,reduceCtorEq]at h
 rename_i a f;split at h;rename_i e;simp only[afr,lG.st.injEq]at h;obtain⟨d,g,rfl⟩:=h;exact⟨a,f,e,TX g⟩;cases h
theorem MM{t:TypeId}{k:zB}(h:Vn P t=some k):(k=.int/\∃q,P.underlying t=some (.int q))\/(k=.str/\P.underlying t=some .string)\/(k=.bool/\P.underlying t=some .bool):=by
 unfold Vn at h
 grind
theorem Vf{t:TypeId}{k:zB}(h:Vn P t=some k){cs:Array Value}{i:Nat}{v:Value}(b:cs[i]?=some v)(w:World):(part t cs i).run P w=.ok v w:=by rcases MM h with⟨_,q,a⟩|⟨_,a⟩|⟨_,a⟩<;>simp[part,isAgg,run_underlying a,b]
theorem RG:∀{b:List zB}{l:List AV},sJ b l=true->b.length=l.length
 |[],[],_=>rfl
 |[],_::_,h=>by simp[sJ]at h
 |_::_,[],h=>by simp[sJ]at h
 |k::b,a::l,h=>by simp only[sJ,ae7]at h;simp[RG h.2]
theorem aeM{t:TypeId}{k:zB}(h:Vn P t=some k){a b:AV}{u v:Value}{r:Bool}(j:adp k a=true)(i:VR E a u)(g:VR E b v)(c:P7 a b=some r)(d:Nat)(w:World):(Op.equalIn (d+1) t u v).run P w=.ok r w:=by rcases MM h with⟨rfl,q,f⟩|⟨rfl,f⟩|⟨rfl,f⟩<;>cases a<;>simp only[adp,afm]at j<;>cases b<;>simp only[P7,reduceCtorEq]at c<;>simp only[VR]at i g<;>subst i<;>subst g;split at c<;>simp only[aeZ,reduceCtorEq]at c;rename_i e;subst e;subst c;rw[run_equalIn_int w d t _ _ _ _ f];rfl;simp only[aeZ]at c;subst c;rw[run_equalIn_string w d t _ _ f,<- beq_toListBytes];rename_i a b;congr 1;by_cases e:a=b;subst e;simp[bytes_beq];simp only[e,decide_false];rcases h':(({data:={toList:=a}}:ByteArray) == {data:={toList:=b}})with _|_;rfl;have:=(bytes_beq _ _).1 h';simp_all;simp only[aeZ]at c;subst c;rw[run_equalIn_bool' w d t _ _ f];rfl
theorem acP(d:Nat)(xs g:Array Value)(w:World):∀(h:List Field) (e:List zB) (i:Nat) (l m:List AV) (us vs:List Value) (r:Bool),GW P i h e->sJ e l=true->VRL E l us->VRL E m vs->(∀j,us[j]?=xs[i+j]?)->(∀j,vs[j]?=g[i+j]?)->D9 l m=some r->(Op.eqFields (d+1) xs g h).run P w=.ok r w
 | [],e,i,l,m,us,vs,r,hf,hp,hl,hm,hx,hy,hq=>by
   cases e with
   |cons k e=>simp[GW]at hf
   | nil =>
     cases l with
     |cons a l=>simp[sJ]at hp
     | nil =>
       cases m with
       |cons b m=>simp[D9]at hq
       |nil=>simp only[D9,aeZ]at hq;subst hq;simp[Op.eqFields]
 | f::h,e,i,l,m,us,vs,r,hf,hp,hl,hm,hx,hy,hq=>by
   cases e with
   |nil=>simp[GW]at hf
   | cons k e =>
     cases l with
     |nil=>simp[sJ]at hp
     | cons a l =>
       cases m with
       |nil=>simp[D9]at hq
       | cons b m =>
         obtain⟨y,t,s,h4⟩:=hf;simp only[sJ,ae7]at hp;obtain⟨u,n,rfl,A,o⟩:=hl;obtain⟨v,q,rfl,B,p⟩:=hm;have z:xs[i]?=some u:=(by have:=hx 0;simpa using this.symm);have x:g[i]?=some v:=(by have:=hy 0;simpa using this.symm);simp only[D9]at hq;simp only[Op.eqFields,ne_eq,t,not_false_eq_true,if_true,y,ae8,Vf s z,Vf s x,ae9];cases hk:P7 a b with
         |none=>rw[hk]at hq;cases hq
         | some c =>
           rw[hk]at hq;rw[aeM s hp.1 A B hk d w];cases c with
           |false=>simp only[aeZ]at hq;subst hq;simp
           | true =>
             exact acP d xs g w h e (i+1) l m n q r h4 hp.2 o p (λj=>by have:=hx (j+1);rw[show i+(j+1)=i+1+j by omega]at this;simpa using this) (λj=>by have:=hy (j+1);rw[show i+(j+1)=i+1+j by omega]at this;simpa using this) hq
theorem Qm{a:TypeId}{c:List zB}{b:Array Field}(h:P.underlying a=some (.struct b))(k:P.stoodInHeld a=false)(o:GW P 0 b.toList c){l:List AV}{q:AV}{u v:Value}{r:Bool}(n:sJ c l=true)(i:VR E (.agg l) u)(p:VR E q v)(g:yF (.agg l) q=some r)(w:World):
  (Op.equal a u v).run P w=.ok r w:=by
 cases q<;>simp only[yF,reduceCtorEq]at g;rename_i m;obtain⟨us,rfl,d⟩:=i;obtain⟨vs,rfl,f⟩:=p;have e:P.fieldsOf a=b:=by simp[Program.fieldsOf,h]
 have:=run_equalIn_struct (P:=P) w 9999 a ⟨us⟩ ⟨vs⟩ (by rw[e];exact h) k;rw[e,acP 9998 ⟨us⟩ ⟨vs⟩ w b.toList c 0 l m us vs r o n d f (λj=>ah4) (λj=>ah4) g]at this;exact this
theorem ZV{t:TypeId}(h:fH P t=some (.st [.str,.str]))(j:P.eqGuardType P.depth t=false){b c a c':List UInt8}{u v:Value}(d:Bool){op:BinOp}(e:op=if d then .neq else .eql)(m:Rel w0 S0 E L w)(k:VR E (.agg [.str b,.str c]) u)(n:VR E (.agg [.str a,.str c']) v)(x y:Operand):
  bN P w0 S0 E L (.bool (if d then !decide (b=a/\c=c')else decide (b=a/\c=c'))) w (do eqGuard op t x y u v;binOp op t u v):=by
 obtain⟨A,q,p,r⟩:=MN h;have o:yF (.agg [.str b,.str c]) (.agg [.str a,.str c'])=some (decide (b=a/\c=c')):=by
  simp only[yF,D9,P7];by_cases z:b=a
  grind
  simp[*]
 have s:=Qm q p r (l:=[.str b,.str c]) rfl k n o w;have i:=k;have g:=n;obtain⟨us,rfl,_⟩:=i;obtain⟨vs,rfl,_⟩:=g;have f:(Op.equalIn 10000 t (.agg ⟨us⟩) (.agg ⟨vs⟩)).run P w=.ok (decide (b=a/\c=c')) w:=s;cases d with
 | true =>
   subst e;refine .same (v:=.bool (!decide (b=a/\c=c'))) m ?_ (by simp only[if_true,VR]);simp only[ae8,run_eqGuard_agg w .neq t x y ⟨us⟩ ⟨vs⟩ j,ae9,run_neq_struct,f,if_true]
 | false =>
   subst e;refine .same (v:=.bool (decide (b=a/\c=c'))) m ?_ (by simp only[afm,if_false,VR]);simp only[afm,if_false,ae8,run_eqGuard_agg w .eql t x y ⟨us⟩ ⟨vs⟩ j,ae9,run_eql_struct,f]
end
section
variable {P:Program}{w0:World}{S0:SB}{E:Env}{L:List Blk}{w:World}{T:Tm}{a:Act}
theorem dE.same{av:AV}{v:Value}{s:Sem Next}(a:Rel w0 S0 E L w)(h:s.run P w=.ok (.value v) w)(b:VR E av v):dE P w0 S0 E L av w s:=⟨E,v,w,.inl h,.refl E,b,a⟩
theorem dh{x:Option Operand}{y:Option Opd}{r:Option Int}(b:TR E T a)(h:vT x=some y)(c:bnd T y=some r):Mw a x r:=acd b h c
theorem YX{t:TypeId}{x:Operand}{g:Bool}{s:Nat}{y:Opd}{c:Prop}{av:AV}{L':List Blk}(d:Rel w0 S0 E L w)(j:TR E T a)(f:lr P t=some g)(i:bJ P t=some s)(k:aZ x=some y)(b:ak T L (.load g s y)=some (c,av,L'))(e:c):dE P w0 S0 E L' av w (do pure (.value (<- Instr.loadAt t (a.eval x)))):=by
 simp only[ak]at b;rcases h1:evD T y with _|u;simp_all;simp only[h1,agw]at b;rcases h2:row L u with _|⟨l,off⟩;simp_all;simp only[h2]at b;have h:=kB d k h1 j;cases g;obtain⟨rfl,rfl,rfl⟩:=b;exact(VM d f h2 h e).done;obtain⟨rfl,rfl,rfl⟩:=b;exact(VL d f i h2 h e).done
theorem Xl{t:TypeId}{p x:Operand}{s:Nat}{n y:Opd}{c:Prop}{av:AV}{L':List Blk}(v:Rel w0 S0 E L w)(f:TR E T a)(k:bJ P t=some s)(m:aZ p=some n)(r:aZ x=some y)(b:ak T L (.store s n y)=some (c,av,L'))(q:c):dE P w0 S0 E L' av w (do Instr.storeAt t (a.eval p) (a.eval x);pure .skip):=by
 simp only[ak]at b;split at b<;>try cases b
 rename_i i off vals o e;split at b<;>try cases b
 rename_i l g;split at b<;>try cases b
 rename_i d;rcases h3:evX T y with _|u;simp_all;simp only[h3,agw]at e;obtain⟨w',j,h⟩:=VC (P:=P) v k rfl (ah m o f) g (qN e (ah r h3 f)) d.2 d.1 q;exact⟨E,undef,w',.inr ⟨by simp[j],rfl⟩,.refl E,by simp[VR],h⟩;rename_i l g;split at b<;>try cases b
 rename_i d;rcases h3:evX T y with _|u;simp_all;simp only[h3,agw]at e;obtain⟨w',j,h⟩:=Uk (P:=P) v k rfl (ah m o f) g (qN e (ah r h3 f)) d.2 d.1 q;exact⟨E,undef,w',.inr ⟨by simp[j],rfl⟩,.refl E,by simp[VR],h⟩
theorem abh{t e:TypeId}{x:Operand}{J G D:Option Operand}{sz:Nat}{F:Opd}{C z u:Option Opd}{c:Prop}{av:AV}{L':List Blk}(s:Rel w0 S0 E L w)(d:TR E T a)(hd:P.underlying t=some (.slice e))(o:bJ P e=some sz)(q:aZ x=some F)(j:vT J=some C)(i:vT G=some z)(n:vT D=some u)(g:ak T L (.slV sz F C z u)=some (c,av,L'))(b:c):dE P w0 S0 E L' av w (do pure (.value (<- Instr.sliceAt t (a.eval x) (J.map a.eval) (G.map a.eval) (D.map a.eval)))):=by
 simp only[ak]at g;have f:∀{r},bnd T u=some r->r=none->D=none:=λ{r} O hr=>by rcases dh d n O with⟨h,_⟩|⟨_,_,_,_,h,_⟩;omega;simp_all
 split at g;rename_i k l m h4;simp only[aeZ,afb]at g;obtain⟨rfl,rfl,rfl⟩:=g;have:=f h4 rfl;subst this;exact(Sw s hd o (ah q k d) (dh d j l) (dh d i m) b.1 b.2).done;rename_i k l m h4;simp only[aeZ,afb]at g;obtain⟨rfl,rfl,rfl⟩:=g;have:=f h4 rfl;subst this;exact((Qd s hd o (ah q k d) (dh d j l) (dh d i m) b.1 b.2.1).1 _ _ rfl b.2.2).done;rename_i k l m h4;simp only[aeZ,afb]at g;obtain⟨rfl,rfl,rfl⟩:=g;rcases dh d i m with⟨_,h⟩|⟨o1,I,K,rfl,y,A⟩;cases h;rcases dh d n h4 with⟨_,h⟩|⟨N,H,M,rfl,v,B⟩;cases h;cases y;cases v;exact(RU s hd o (ah q k d).gsl_sl.1 (dh d j l) A B b.1 b.2.1 b.2.2.1 b.2.2.2.1 b.2.2.2.2).done;rename_i k l m h4;simp only[aeZ,afb]at g;obtain⟨rfl,rfl,rfl⟩:=g;rcases dh d i m with⟨_,h⟩|⟨o1,I,K,rfl,y,A⟩;cases h;rcases dh d n h4 with⟨_,h⟩|⟨N,H,M,rfl,v,B⟩;cases h;cases y;cases v;exact(RU s hd o (ah q k d) (dh d j l) A B b.1 b.2.1 b.2.2.1 b.2.2.2.1 b.2.2.2.2).done;rename_i k l m h4;simp only[aeZ,afb]at g;obtain⟨rfl,rfl,rfl⟩:=g;have:=f h4 rfl;subst this;obtain⟨rfl,b⟩:=b;exact((Qd s hd o (ah q k d).gsl_sl.1 (dh d j l) (dh d i m) b.1 b.2.1).1 _ _ rfl b.2.2).done;rename_i k l m h4;split at g<;>try cases g
 rename_i p;subst p;have:=f h4 rfl;subst this;exact((Qd s hd o (ah q k d) (dh d j l) (dh d i m) b.1 b.2.1).2 _ _ _ rfl b.2.2).done;rename_i k l m h4;split at g<;>try cases g
 rename_i p;subst p;rcases dh d i m with⟨_,h⟩|⟨o1,I,K,rfl,y,A⟩;cases h;rcases dh d n h4 with⟨_,h⟩|⟨N,H,M,rfl,v,B⟩;cases h;cases y;cases v;exact(VE s hd o (ah q k d) (dh d j l) A B b.1 b.2.1 b.2.2.1 b.2.2.2).done;simp_all
theorem abi{t e:TypeId}{x:Operand}{v r:Option Operand}{n sz:Nat}{q:Opd}{i j:Option Opd}{c:Prop}{av:AV}{L':List Blk}(k:Rel w0 S0 E L w)(f:TR E T a)(hd:P.underlying t=some (.array n e))(s:bJ P e=some sz)(u:aZ x=some q)(h:vT v=some i)(g:vT r=some j)(d:ak T L (.slA n sz q i j)=some (c,av,L'))(b:c):dE P w0 S0 E L' av w (do pure (.value (<- Instr.sliceAt t (a.eval x) (v.map a.eval) (r.map a.eval) none))):=by
 simp only[ak]at d;split at d;rename_i o m p;simp only[aeZ,afb]at d;obtain⟨rfl,rfl,rfl⟩:=d;exact((Uc k hd s (kB k u o f) (dh f h m) (dh f g p) b.1 b.2.1 b.2.2.1).1 _ _ rfl).done;rename_i o m p;split at d<;>try cases d
 rename_i l y;exact((Uc k hd s (kB k u o f) (dh f h m) (dh f g p) b.1 b.2.1 b.2.2.1).2 _ _ _ rfl y b.2.2.2).done;simp_all
theorem Xm{t e:TypeId}{x i:Operand}{sz:Nat}{m n:Opd}{c:Prop}{av:AV}{L':List Blk}(l:Rel w0 S0 E L w)(f:TR E T a)(hd:P.underlying t=some (.slice e))(g:bJ P e=some sz)(k:aZ x=some m)(o:aZ i=some n)(h:ak T L (.iaddr sz m n)=some (c,av,L'))(b:c):dE P w0 S0 E L' av w (do pure (.value (<- Instr.indexAt t (a.eval x) (a.eval i)))):=by
 simp only[ak]at h;split at h<;>try cases h
 all_goals
  rename_i j p;have d:=ah o p f;simp only[VR]at d;rw[d]
 exact((JF l hd g (ah k j f) b.1).1 _ _ _ rfl b.2).done;exact((JF l hd g (ah k j f).gsl_sl.1 b.1).1 _ _ _ rfl b.2).done;exact((JF l hd g (ah k j f) b.1).2 _ _ _ _ _ rfl b.2).done
theorem U5{t e:TypeId}{x i:Operand}{n sz:Nat}{j o:Opd}{c:Prop}{av:AV}{L':List Blk}(f:Rel w0 S0 E L w)(h:TR E T a)(hd:P.underlying t=some (.array n e))(k:bJ P e=some sz)(m:aZ x=some j)(p:aZ i=some o)(g:ak T L (.iaddrA n sz j o)=some (c,av,L'))(d:c):dE P w0 S0 E L' av w (do pure (.value (<- Instr.indexAt t (a.eval x) (a.eval i)))):=by
 simp only[ak]at g;split at g<;>try cases g
 all_goals
  rename_i l q;have b:=ah p q h;simp only[VR]at b;rw[b]
 exact((OF f hd k (kB f m l h) d.1 d.2).1 _ _ rfl).done;exact((OF f hd k (kB f m l h) d.1 d.2).2 _ _ rfl).done
theorem Xo{t:TypeId}{j:Array Field}{f:Nat}{e:Field}{x:Operand}{i:Opd}{c:Prop}{av:AV}{L':List Blk}(b:Rel w0 S0 E L w)(g:TR E T a)(hd:P.underlying t=some (.struct j))(l:j.toList[f]?=some e)(k:(bJ P e.type).getD 0≠0)(h:aZ x=some i)(d:ak T L (.faddr e.offset i)=some (c,av,L')):dE P w0 S0 E L' av w (do pure (.value (<- Instr.fieldAt t (a.eval x) f))):=by
 simp only[ak]at d;split at d<;>try cases d
 all_goals rename_i m
 exact((Qf b hd l k (kB b h m g)).1 _ _ rfl).done;exact((Qf b hd l k (kB b h m g)).2 _ _ rfl).done
theorem Xn{t:TypeId}{o:Array Field}{f sz:Nat}{g:Bool}{d:Field}{x:Operand}{e:Opd}{c:Prop}{av:AV}{L':List Blk}(q:Rel w0 S0 E L w)(j:TR E T a)(hd:P.underlying t=some (.struct o))(p:o.toList[f]?=some d)(n:lr P d.type=some g)(h:bJ P d.type=some sz)(m:aZ x=some e)(b:ak T L (.field g d.offset sz e)=some (c,av,L'))(k:c):dE P w0 S0 E L' av w (do pure (.value (<- Instr.field t (a.eval x) f))):=by
 simp only[ak]at b;split at b<;>try cases b
 rename_i l i;cases g;obtain⟨rfl,rfl,rfl⟩:=b;exact((Qe q hd p n h (ah m i j)).2 rfl k).done;obtain⟨rfl,rfl,rfl⟩:=b;exact((Qe q hd p n h (ah m i j)).1 rfl k).done
theorem abm{op:BinOp}{t u:TypeId}{x y:Operand}{lo:LOp}{c:Prop}{av:AV}{L':List Blk}(hR:Rel w0 S0 E L w)(hT:TR E T a)(hl:Jz P op t x y=some lo)(he:ak T L lo=some (c,av,L'))(hc:c):
  dE P w0 S0 E L' av w (do pure (.value (<- (do eqGuard op t x y (a.eval x) (a.eval y);binOp op t (a.eval x) (a.eval y))))):=by
 unfold Jz at hl;split at hl<;>try cases hl
 rename_i x' y' hx hy;have plain:∀{lo:LOp},lo=.bin op x' y'->ak T L lo=some (c,av,L')->dE P w0 S0 E L' av w (do pure (.value (<- (do eqGuard op t x y (a.eval x) (a.eval y);binOp op t (a.eval x) (a.eval y))))):=λhlo he=>by
  subst hlo;simp only[ak]at he;split at he<;>try cases he
  rename_i u v h1 h2;rcases h3:bin op u v with _|⟨c',r⟩;simp_all
  .simp only[h3,afi,aeZ,afb]at he;obtain⟨rfl,rfl,rfl⟩:=he;have hu:=ah hx h1 hT;have hv:=ah hy h2 hT;have hguard:(eqGuard op t x y (a.eval x) (a.eval y)).run P w=.ok () w:=by
    have:(∃k n,a.eval x=.int k n)\/(∃s,a.eval x=.string s):=by
     unfold bin at h3;split at h3<;>try cases h3
     all_goals (simp only[VR]at hu)
     simp[*];simp[*];simp[*];simp[*]
    unfold eqGuard;rcases this with⟨k,n,e⟩|⟨s,e⟩<;>rw[e]<;>cases op<;>simp
   obtain⟨E',x1,w',r1,r2⟩:=ZW (P:=P) (t:=t) hR hu hv h3 hc;exact⟨E',x1,w',.inl (by simp[hguard,r1]),r2⟩
 have eqs:∀(neg:Bool) (k:EqK) (d:TypeDesc),op=(if neg then .neq else .eql)->P.underlying t=some d->k.fits d=true->(k=.iface->(lq x ||lq y)=true)->ak T L (.eqk neg k x' y')=some (c,av,L') ->
   dE P w0 S0 E L' av w (do pure (.value (<- (do eqGuard op t x y (a.eval x) (a.eval y);binOp op t (a.eval x) (a.eval y))))):=λneg k d hop hd hk hif he=>by
  simp only[ak]at he;split at he<;>try cases he
  rename_i u v h1 h2;rcases h3:eqA k u v with _|r
  .simp_all
  .simp only[h3,afi,aeZ,afb]at he;obtain⟨rfl,rfl,rfl⟩:=he;exact(abX neg hop hR (ah hx h1 hT) (ah hy h2 hT) hd hk h3 x y hif).done
 have sln:∀(neg:Bool) (e:TypeId),op=(if neg then .neq else .eql)->P.underlying t=some (.slice e)->(if Qb y=true then some (LOp.slnil neg x')else none)=some lo->ak T L lo=some (c,av,L') ->
   dE P w0 S0 E L' av w (do pure (.value (<- (do eqGuard op t x y (a.eval x) (a.eval y);binOp op t (a.eval x) (a.eval y))))):=λneg e hop hd hlo he=>by
  by_cases hnil:Qb y=true
  case neg=>rw[if_neg hnil]at hlo;cases hlo
  rw[if_pos hnil]at hlo;cases hlo;have hy':a.eval y=.slice none 0 0:=by
   unfold Qb at hnil;split at hnil
   .rfl
   simp_all
  rw[hy'];simp only[ak]at he;split at he<;>try cases he
  all_goals
   rename_i h1;have hu:=ah hx h1 hT;simp only[VR]at hu;refine(VD neg hop hR hd ?_ x y).done
  .grind
  .grind
  .obtain⟨_,_,_,_,h2,_⟩:=hu;exact⟨_,_,h2,λe=>by cases e⟩
 have st2:∀(neg:Bool),op=(if neg then .neq else .eql)->(if ZH P t=true then some (LOp.eq2 neg x' y')else none)=some lo->ak T L lo=some (c,av,L') ->
   dE P w0 S0 E L' av w (do pure (.value (<- (do eqGuard op t x y (a.eval x) (a.eval y);binOp op t (a.eval x) (a.eval y))))):=λneg hop hlo he=>by
  by_cases h2:ZH P t=true
  case neg=>rw[if_neg h2]at hlo;cases hlo
  rw[if_pos h2]at hlo;cases hlo;simp only[ak]at he;split at he<;>try cases he
  rename_i b c b' c' h3 h4;unfold ZH at h2;split at h2
  .rename_i hkd;exact(ZV hkd (by simpa using h2) neg hop hR (ah hx h3 hT) (ah hy h4 hT) x y).done
  .cases h2
 split at hl;cases hl;exact plain rfl he;cases hl;exact plain rfl he
 .rename_i d _ _ hd;split at hl<;>try (cases hl;done)
  all_goals try cases hl
  exact eqs false .bool _ rfl hd rfl ah4 he;exact eqs true .bool _ rfl hd rfl ah4 he;exact eqs false .ptr _ rfl hd rfl ah4 he;exact eqs true .ptr _ rfl hd rfl ah4 he;exact sln false _ rfl hd hl he;exact sln true _ rfl hd hl he;exact eqs false .map _ rfl hd rfl ah4 he;exact eqs true .map _ rfl hd rfl ah4 he;exact eqs false .func _ rfl hd rfl ah4 he;exact eqs true .func _ rfl hd rfl ah4 he;split at hl<;>try cases hl
  rename_i hcst;exact eqs false .iface _ rfl hd rfl (λ_=>hcst) he;split at hl<;>try cases hl
  rename_i hcst;exact eqs true .iface _ rfl hd rfl (λ_=>hcst) he;exact st2 false rfl hl he;exact st2 true rfl hl he
 cases hl
end
end Go.Proofs.YtajkbcmleihaoaaGreatDoor.Av
