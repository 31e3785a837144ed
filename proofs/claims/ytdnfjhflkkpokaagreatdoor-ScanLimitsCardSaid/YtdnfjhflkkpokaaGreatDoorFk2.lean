/- Joined texts of the walk, made small by a program. -/
import Derived.Test.YtdnfjhflkkpokaaGreatDoorFk1
import Derived.MapKept
import Derived.Laws.StructEq
set_option linter.unusedSimpArgs false
set_option linter.unusedVariables false
namespace Go.Proofs.YtdnfjhflkkpokaaGreatDoor.Av
open Go
def dA(P:Program)(w0:World)(S0:SB)(E:Env)(L':List Blk)(av:AV)(w:World)(s:Sem Value):Prop :=
 ∃E' v w',s.run P w=.ok v w'/\E.le E'/\VR E' av v/\Rel w0 S0 E' L' w'
section
variable {P:Program}{w0:World}{S0:SB}{E:Env}{L:List Blk}{w:World}
theorem dA.same{av:AV}{v:Value}{s:Sem Value}(b:Rel w0 S0 E L w)(h:s.run P w=.ok v w)(a:VR E av v):dA P w0 S0 E L av w s:=⟨E,v,w,h,.refl E,a,b⟩
theorem cE{t:TypeId}{n:Nat}(h:dt P t=some n):(sizeOf t).run P w=.ok n w:=by unfold dt at h;simp only[ap6]at h;obtain⟨i,a,rfl⟩:=h;simp[sizeOf,typeInfo,a]
theorem Ei{t:TypeId}{g:Bool}(h:nB P t=some g):(isAgg t).run P w=.ok g w:=by unfold nB at h;unfold isAgg;split at h<;>simp at h<;>subst h;rename_i b a;simp[run_underlying a];rename_i n e a;simp[run_underlying a];rename_i d f c a;simp only[apA,run_underlying a,apE];rfl
theorem Tn{t:TypeId}{z:List AV}(h:zOf P t=some z):∃v,(∀w,(zeroValue t).run P w=.ok v w)/\VRL E z v.cells.toList/\∀a∈z,AV.one a=true:=by unfold zOf at h;rcases h1:P.info? t with _|i;simp_all;rcases h2:i.zero with _|v;simp_all;simp[h1,h2]at h;exact⟨v,λw=>by simp[zeroValue,typeInfo,h1,h2],afk h⟩
theorem To{t:TypeId}{z:List AV}(h:zOf P t=some z):∃v,(zeroValue t).run P w=.ok v w/\VRL E z v.cells.toList/\∀a∈z,AV.one a=true :=
 let ⟨v,h1,h2⟩:=Tn (E:=E) h
 ⟨v,h1 w,h2⟩
theorem afL{t:TypeId}{p:AV}{v:Value}{l:List AV}{off:Nat}(c:Rel w0 S0 E L w)(e:nB P t=some false)(i:row L p=some (l,off))(d:VR E p v)(a:off<l.length):
  dA P w0 S0 E L (l.getD off .undef) w (Instr.loadAt t v):=by
 obtain⟨b,o,rfl,f⟩:=Wx c i d;obtain⟨x,h,g⟩:=f off l[off] (apD a);refine .same c (v:=x) ?_ (by rw[apO,apD a];exact g);simp[Instr.loadAt,Instr.sureAddr,loadVar,Ei e,h]
theorem Yc{t:TypeId}{l:List AV}{b o:Nat}(c:nB P t=some true)(g:dt P t=some l.length)(d:∀(j:Nat) (a:AV),l[j]?=some a->∃x,w.cell? ⟨b,o+j,none⟩=some x/\VR E a x):∃cs,VRL E l cs/\(loadVar t ⟨b,o,none⟩).run P w=.ok (.agg ⟨cs⟩) w:=by
 obtain⟨cs,f,e⟩:=jd (P:=P) d;exact⟨cs,f,by simp[loadVar,Ei c,cE g,e]⟩
theorem afK{t:TypeId}{p:AV}{v:Value}{l:List AV}{off sz:Nat}(e:Rel w0 S0 E L w)(i:nB P t=some true)(r:dt P t=some sz)(q:row L p=some (l,off))(h:VR E p v)(k:off+sz<=l.length):
  dA P w0 S0 E L (.agg ((l.drop off).take sz)) w (Instr.loadAt t v):=by
 obtain⟨b,o,rfl,f⟩:=Wx e q h;have c:((l.drop off).take sz).length=sz:=by simp;omega
 obtain⟨cs,g,m⟩:=Yc (P:=P) (w:=w) (b:=b) (o:=o+off) (l:=(l.drop off).take sz) i (by rw[c];exact r) (λj a d=>by have n:j<sz:=(by have:=(aps.1 d).1;omega);rw[aqs n,aqo]at d;have:=f _ _ d;rwa[<- aqx]at this)
 refine .same e (v:=.agg ⟨cs⟩) ?_ ⟨cs,rfl,g⟩;simpa[Instr.loadAt,Instr.sureAddr]using m
theorem akv{l:List AV}{vs:List Value}{b:List Value}{ty:TypeId}{fr:Nat×Nat}{E':Env}{i:Nat}(g:VRL E l vs)(e:E.le E')(c:E'.loc i=some ⟨w.heap.size,0,vs.length+b.length⟩)(d:∀o,o<=vs.length+b.length->¬(fr.1<=o/\o<fr.2)):
  bZ E' {w with heap:=w.heap.push (.cells ⟨vs++b⟩ ty fr)} i (.cells l):=by
 refine⟨_,⟨vs++b⟩,ty,fr,c,asQ,asQ,by have:=g.length;simp;omega,λj a h=>?_,λo _ k=>d o k⟩;obtain⟨v,f,m⟩:=g.get h;have n:j<vs.length:=(aps.1 f).1;exact⟨v,by simp[apx n,f],VR.mono e _ _ m⟩
theorem td{l:List AV}{vs:List Value}(c:Rel w0 S0 E L w)(e:VRL E l vs)(a:List Value)(ty:TypeId)(fr:Nat×Nat)(b:∀o,o<=vs.length+a.length->¬(fr.1<=o/\o<fr.2)):
  ∃E',E.le E'/\E'.loc L.length=some ⟨w.heap.size,0,vs.length+a.length⟩/\Rel w0 S0 E' (L++[.cells l]) {w with heap:=w.heap.push (.cells ⟨vs++a⟩ ty fr)}:=by
 have d:E.loc L.length=none:=c.fresh _ (apt _);have:=c.push (.cells ⟨vs++a⟩ ty fr) (.cells l) ⟨w.heap.size,0,vs.length+a.length⟩ rfl rfl (akv e (Env.le_loc _ d) asQ b)
 grind
theorem ah7{l:List AV}{vs:List Value}{b:List Value}{ty:TypeId}{fr:Nat×Nat}{E':Env}{i:Nat}(g:VRL E l vs)(e:E.le E')(c:E'.loc i=some ⟨w.heap.size,0,vs.length+b.length⟩)(d:∀o,o<vs.length+b.length->¬(fr.1<=o/\o<fr.2)):
  bZ E' {w with heap:=w.heap.push (.cells ⟨vs++b⟩ ty fr)} i (.bytes l):=by
 refine⟨_,⟨vs++b⟩,ty,fr,c,asQ,asQ,by have:=g.length;simp;omega,λj a h=>?_,λo _ k=>d o k⟩;obtain⟨v,f,m⟩:=g.get h;have n:j<vs.length:=(aps.1 f).1;exact⟨v,by simp[apx n,f],VR.mono e _ _ m⟩
theorem adG{l:List AV}{vs:List Value}(c:Rel w0 S0 E L w)(e:VRL E l vs)(a:List Value)(ty:TypeId)(fr:Nat×Nat)(b:∀o,o<vs.length+a.length->¬(fr.1<=o/\o<fr.2)):
  ∃E',E.le E'/\E'.loc L.length=some ⟨w.heap.size,0,vs.length+a.length⟩/\Rel w0 S0 E' (L++[.bytes l]) {w with heap:=w.heap.push (.cells ⟨vs++a⟩ ty fr)}:=by
 have d:E.loc L.length=none:=c.fresh _ (apt _);have:=c.push (.cells ⟨vs++a⟩ ty fr) (.bytes l) ⟨w.heap.size,0,vs.length+a.length⟩ rfl rfl (ah7 e (Env.le_loc _ d) asQ b)
 grind
theorem Yf{t:TypeId}{v:Value}{l:List AV}(c:Rel w0 S0 E L w)(b:VRL E l v.cells.toList):
  dA P w0 S0 E (L++[.cells l]) (.ptr L.length 0) w (do pure (.pointer (some (<- newVar t v)))):=by
 obtain⟨E',d,e,a⟩:=td c b [] t (0,0) asQ;refine⟨E',.pointer (some ⟨w.heap.size,0,none⟩),{w with heap:=w.heap.push (.cells v.cells t)},by simp[newVar,newRow],d,?_,by simpa using a⟩;simp only[VR];simp[*]
theorem afM{t:TypeId}{z:List AV}(b:Rel w0 S0 E L w)(d:zOf P t=some z):dA P w0 S0 E (L++[.cells z]) (.ptr L.length 0) w (Instr.alloc t true (.tuple #[])):=by obtain⟨v,e,c,_⟩:=To (w:=w) (E:=E) d;obtain⟨E',x,w',a,h4⟩:=Yf (P:=P) (t:=t) b c;exact⟨E',x,w',by simpa[Instr.alloc,e]using a,h4⟩
theorem ahZ(cs:List Value):∀(j off:Nat) (z:Array Value),off+j+cs.length<=z.size ->
  ((cs.zipIdx j).foldl (λa (x:Value×Nat)=>a.setIfInBounds (off+x.2) x.1) z).size=z.size /\
  ∀k,((cs.zipIdx j).foldl (λa (x:Value×Nat)=>a.setIfInBounds (off+x.2) x.1) z)[k]?=if off+j<=k/\k<off+j+cs.length then cs[k-(off+j)]? else z[k]?:=by
 induction cs with
 |nil=>intro j off z _;exact⟨rfl,λk=>by rw[if_neg asQ];rfl⟩
 | cons c cs ih =>
   intro j off z b;simp only[apC]at b;simp only[List.zipIdx_cons,aqt,apC];have:=ih (j+1) off (z.setIfInBounds (off+j) c) (by rw[Array.size_setIfInBounds];omega)
   grind
theorem YY{T:Tm}{a:Act}(q:TR E T a){place:Nat->Option (Nat×Nat)}{d:TypeDesc}(n:∀i r,VT P d i=some r->place i=some r):∀{ps:List (Nat×Operand)}{m:List (Nat×Nat×Opd)}{z l:List AV}{cells:Array Value},
  iC P d ps=some m->lP T z m=some l->VRL E z cells.toList->∃cs,Instr.fill place cells (ps.map λ(i,x)=>(i,a.eval x))=some cs/\VRL E l cs.toList
 |[],m,z,l,cells,hm,c,hz=>by simp[iC]at hm;subst hm;simp[lP]at c;subst c;exact⟨cells,by simp[Instr.fill],hz⟩
 | (i,x)::ps,m,z,l,cells,hm,c,hz=>by
   simp only[iC]at hm;split at hm<;>simp at hm;rename_i o s y F A v B;subst hm;simp only[lP]at c;split at c<;>try simp at c
   rename_i vals h4;obtain⟨⟨G,D⟩,c⟩:=c;rcases h7:evX T y with _|u
   .simp_all
   .simp[h7]at h4;have w:=ao v h7 q;have h:=rE h4 w;have e:=h.length;have f:=hz.length;have key:=ahZ (a.eval x).cells.toList 0 o cells (by simp at e f⊢;omega);have j:VRL E (d7 z o vals) (((a.eval x).cells.toList.zipIdx 0).foldl (λa (x:Value×Nat)=>a.setIfInBounds (o+x.2) x.1) cells).toList:=by
     refine VRL.of_get (by rw[nH asP];simpa using key.1.trans (by simpa using f)) λk b g=>?_
     rw[Sv asP]at g;rw[asA,key.2 k];by_cases p:o<=k/\k<o+vals.length
     .rw[if_pos p]at g;rw[if_pos asP];exact h.get g
     .rw[if_neg p]at g;rw[if_neg asP];simpa using hz.get g
    obtain⟨cs,t,C⟩:=YY q n B c j;refine⟨cs,?_,C⟩;simp only[apX,Instr.fill,n _ _ A];rw[if_neg (by simp at e f⊢;omega)];rw[<- t];rw[<- Array.foldl_toList,Array.toList_zipIdx]
end
section
variable {P:Program}{w0:World}{S0:SB}{E:Env}{L:List Blk}{w:World}{T:Tm}{a:Act}
theorem Zz:∀(l:List Field),(∀f∈l,(dt P f.type).isSome=true) ->
  (l.mapM (m:=Sem) λf=>do pure (f.offset,<- sizeOf f.type)).run P w=.ok (l.map λf=>(f.offset,(dt P f.type).getD 0)) w
 |[],_=>asQ
 | f::l,h=>by
   have a:=h f asQ;rw[Option.isSome_iff_exists]at a;obtain⟨n,a⟩:=a;have c:=Zz l λg b=>h g (by simp[b])
   rw[ase,apA,apA,cE a];simp_all
theorem aei{t:TypeId}{b:Array Field}{ps:List (Nat×Operand)}{z l:List AV}{m:List (Nat×Nat×Opd)}(j:TR E T a)(e:Rel w0 S0 E L w)(k:P.underlying t=some (.struct b))(q:zOf P t=some z)(g:b.toList.all (λf=>(dt P f.type).isSome)=true)(o:iC P (.struct b) ps=some m)(s:lP T z m=some l):
  dA P w0 S0 E L (.agg l) w (Instr.build t ⟨ps.map λ(i,x)=>(i,a.eval x)⟩):=by
 obtain⟨v,h,p,_⟩:=To (w:=w) (E:=E) q;obtain⟨cs,y,h4⟩:=YY (place:=λi=>(b.toList.map λf=>(f.offset,(dt P f.type).getD 0)).toArray[i]?) j (λi r c=>by simp only[VT]at c;split at c<;>simp at c;rename_i f d;obtain⟨n,u,rfl⟩:=c;simp[d,u]) o s p
 refine .same e (v:=.agg cs) ?_ ⟨cs.toList,rfl,h4⟩;have:=Zz (P:=P) (w:=w) b.toList (apF.1 g);simp only[Instr.build,apA,h,apE,run_underlying k,Array.mapM_eq_mapM_toList,Sem.run_map,this];simp_all
theorem aej{t e:TypeId}{n:Nat}{ps:List (Nat×Operand)}{z l:List AV}{m:List (Nat×Nat×Opd)}(g:TR E T a)(d:Rel w0 S0 E L w)(h:P.underlying t=some (.array n e))(o:zOf P t=some z)(j:iC P (.array n e) ps=some m)(b:(dt P e).isSome=true)(p:lP T z m=some l):
  dA P w0 S0 E L (.agg l) w (Instr.build t ⟨ps.map λ(i,x)=>(i,a.eval x)⟩):=by
 obtain⟨v,f,k,_⟩:=To (w:=w) (E:=E) o;rw[Option.isSome_iff_exists]at b;obtain⟨s,b⟩:=b;obtain⟨cs,q,h4⟩:=YY (place:=λi=>some (i*s,s)) g (λi r c=>by simp only[VT,b,apN]at c;exact c) j p k
 refine .same d (v:=.agg cs) ?_ ⟨cs.toList,rfl,h4⟩;simp only[Instr.build,apA,f,apE,run_underlying h,cE b];simp[*]
theorem kI(z:List AV):∀n,(gq z n).length=n*z.length
 |0=>by simp[gq]
 |n+1=>by simp[gq,kI z n,arG];omega
theorem abx{z:List AV}(b:0<z.length):∀(n i:Nat),i<n*z.length->(gq z n)[i]?=z[i%z.length]?
 |0,i,h=>by simp at h
 | n+1,i,h=>by
   simp only[gq];rcases apV i z.length with a|a
   .rw[apx a,Nat.mod_eq_of_lt a]
   .rw[apH a,abx b n (i-z.length) (by rw[arG]at h;omega)];rw[Nat.mod_eq_sub_mod a]
theorem TI{z:List AV}{vs:List Value}(h:VRL E z vs)(n:Nat):VRL E (gq z n) ((List.range (n*vs.length)).map λi=>vs.toArray[i%vs.toArray.size]!):=by
 have b:=h.length;refine VRL.of_get (by simp[kI,b]) λi x a=>?_
 have c:i<n*z.length:=by have:=(aps.1 a).1;rwa[kI]at this
 have d:0<z.length:=by grind
 rw[abx d n i c]at a;obtain⟨v,f,e⟩:=h.get a;simp[*]
theorem V9:∀{m:List (Nat×Nat×Opd)}{z l:List AV},lP T z m=some l->l.length=z.length
 |[],z,l,h=>by simp[lP]at h;rw[h]
 | (o,s,x)::m,z,l,h=>by
   simp only[lP]at h;split at h<;>try simp at h
   rename_i vals _;obtain⟨⟨a,b⟩,h⟩:=h;rw[V9 h,nH asP]
theorem aek{t e:TypeId}{n s:Nat}{own:Bool}{ps:List (Nat×Operand)}{z l:List AV}{m:List (Nat×Nat×Opd)}(F:TR E T a)(p:Rel w0 S0 E L w)(u:P.underlying t=some (.slice e))(j:dt P e=some s)(H:zOf P e=some z)(b:z.length=s)(J:n*s<=2^24)(G:iC P (.slice e) ps=some m)(A:lP T (gq z n) m=some l):
  if own then dA P w0 S0 E (L++[.cells l]) (.lsl L.length 0 n (some n) s) w (Instr.buildSlice t n ⟨ps.map λ(i,x)=>(i,a.eval x)⟩)
  else dA P w0 S0 E L (.sl l n (some n)) w (Instr.buildSlice t n ⟨ps.map λ(i,x)=>(i,a.eval x)⟩):=by
 obtain⟨v,C,y,_⟩:=To (w:=w) (E:=E) H;have D:v.cells.size=s:=by have:=y.length;simpa[b]using this
 have d:VRL E (gq z n) ((Array.range (n*s)).map (v.cells[· % v.cells.size]!)).toList:=by have:=TI y n;simp_all
 obtain⟨cs,I,h4⟩:=YY (place:=λi=>some (i*s,s)) F (λi r g=>by simp only[VT,j,apN]at g;exact g) G A d
 have B:l.length=n*s:=by rw[V9 A,kI,b]
 have f:=h4.length;have c:(Instr.buildSlice t n ⟨ps.map λ(i,x)=>(i,a.eval x)⟩).run P w=.ok (.slice (some ⟨w.heap.size,0,none⟩) n n) {w with heap:=w.heap.push (.cells cs e)}:=by by_cases o:n*s=0;have g:Array.range 0=#[]:=rfl;simp[o,g]at I;simp[Instr.buildSlice,run_underlying u,cE j,o,g,newRow];simp[*];simp[Instr.buildSlice,run_underlying u,cE j,show ¬(n*s>2^24)by omega,o,C,newRow];simp_all
 split;obtain⟨E',h,k,q⟩:=td p h4 [] e (0,0) asQ;refine⟨E',_,_,c,h,?_,by simpa using q⟩;exact⟨_,n,0,k,rfl,asQ,apt _,asQ,by simp at f⊢;omega⟩;obtain⟨E',h,k,q,K⟩:=p.imm cs.toList e l h4 [] (0,0);refine⟨E',_,_,c,h,?_,by simpa using k⟩;simp only[VR]
 grind
theorem afB{t:TypeId}{v x:Value}{p:AV}{i off sz:Nat}{l vals:List AV}(f:Rel w0 S0 E L w)(q:dt P t=some sz)(o:p=.ptr i off)(k:VR E p v)(g:L[i]?=some (.cells l))(d:VRL E vals x.cells.toList)(a:vals.all AV.one=true)(b:vals.length=sz)(m:off+sz<=l.length):
  ∃w',(Instr.storeAt t v x).run P w=.ok () w'/\Rel w0 S0 E (L.set i (.cells (d7 l off vals))) w':=by
 subst o;obtain⟨c,e,rfl⟩:=k;have j:=d.length;obtain⟨w',h,n⟩:=TA (P:=P) (off:=off) f g e d (by simpa using a) asP;refine⟨w',?_,n⟩;have:x.cells.size=sz:=by simpa[b]using j
 simp[Instr.storeAt,Instr.sureAddr,storeVar,cE q,this,h]
theorem ael{t:TypeId}{v x:Value}{p:AV}{i off sz:Nat}{l vals:List AV}(f:Rel w0 S0 E L w)(q:dt P t=some sz)(o:p=.ptr i off)(k:VR E p v)(g:L[i]?=some (.bytes l))(d:VRL E vals x.cells.toList)(a:vals.all AV.one=true)(b:vals.length=sz)(m:off+sz<=l.length):
  ∃w',(Instr.storeAt t v x).run P w=.ok () w'/\Rel w0 S0 E (L.set i (.bytes (d7 l off vals))) w':=by
 subst o;obtain⟨c,e,rfl⟩:=k;have j:=d.length;obtain⟨w',h,n⟩:=ag8 (P:=P) (off:=off) f g e d (by simpa using a) asP;refine⟨w',?_,n⟩;have:x.cells.size=sz:=by simpa[b]using j
 simp[Instr.storeAt,Instr.sureAddr,storeVar,cE q,this,h]
theorem al2{op:UnOp}{x y:AV}{v:Value}(b:Rel w0 S0 E L w)(a:VR E x v)(h:un op x=some y):dA P w0 S0 E L y w (Op.unary op v):=by unfold un at h;split at h<;>simp at h<;>subst h<;>simp only[VR]at a<;>subst a;exact .same b (v:=.int _ _) (by simp[Op.unary,Op.intArith]) rfl;exact .same b (v:=.bool _) (by simp[Op.unary]) rfl
theorem ahW{op:BinOp}{t:TypeId}{k:IntKind}{m n:Int}{y:AV}{c:Prop}(hR:Rel w0 S0 E L w)(h:amk op k m n=some (c,y))(hc:c):
  dA P w0 S0 E L y w (binOp op t (.int k m) (.int k n)):=by
 cases op<;>simp only[amk,apu,apI,reduceCtorEq]at h<;>obtain⟨rfl,rfl⟩:=h
 case quo=>exact .same hR (v:=.int _ _) (by simp[binOp,Op.intDiv,hc]) rfl
 case rem=>exact .same hR (v:=.int _ _) (by simp[binOp,Op.intDiv,hc]) rfl
 case add|sub|mul=>exact .same hR (v:=.int _ _) (by simp[binOp,Op.intArith]) rfl
 case and|or|xor|andNot=>exact .same hR (v:=.int _ _) (by simp[binOp,Op.intBits]) rfl
 case eql =>
  refine .same hR (v:=.bool (m == n)) (by simp[binOp,Op.intCmp]) ?_;rfl
 case neq =>
  refine .same hR (v:=.bool (m != n)) (by simp[binOp,Op.intCmp]) ?_;rfl
 all_goals exact .same hR (v:=.bool _) (by simp[binOp,Op.intCmp]) rfl
theorem ahV{op:BinOp}{t:TypeId}{x z:List UInt8}{y:AV}{c:Prop}(hR:Rel w0 S0 E L w)(h:amj op x z=some (c,y))(hc:c):
  dA P w0 S0 E L y w (binOp op t (.string ⟨⟨x⟩⟩) (.string ⟨⟨z⟩⟩)):=by
 have e1:(ByteArray.mk ⟨x⟩).toList=x:=asf x;have e2:(ByteArray.mk ⟨z⟩).toList=z:=asf z;have e3:(x == z)=decide (x=z):=by by_cases h:x=z<;>simp[h]
 cases op<;>simp only[amj,apu,apI,reduceCtorEq]at h<;>obtain⟨rfl,rfl⟩:=h
 case add =>
  refine .same hR (v:=.string ⟨⟨x++z⟩⟩) ?_ rfl;have hs1:(ByteArray.mk ⟨x⟩).size=x.length:=rfl;have hs2:(ByteArray.mk ⟨z⟩).size=z.length:=rfl;have hm:¬(((x.length+z.length:Nat):Int)>IntKind.i64.max):=by simp_all
  simp only[binOp,Op.stringOp,hs1,hs2,if_neg hm];rfl
 all_goals exact .same hR (v:=.bool _) (by simp[binOp,Op.stringOp,e1,e2,e3];try rfl) rfl
end
section
variable {P:Program}{w0:World}{S0:SB}{E:Env}{L:List Blk}{w:World}{T:Tm}{a:Act}
theorem aj4{op:BinOp}{t:TypeId}{x y:AV}{u v:Value}{r:AV}{c:Prop}(f:Rel w0 S0 E L w)(a:VR E x u)(b:VR E y v)(h:bin op x y=some (c,r))(d:c):
  dA P w0 S0 E L r w (binOp op t u v):=by
 unfold bin at h;split at h;simp only[apu,apI]at h;obtain⟨rfl,rfl⟩:=h;simp only[VR]at a b;subst a b;exact .same f (v:=.int _ _) (by simp[binOp,Op.shift,show ¬(_<(0:Int))from arq.2 d]) rfl;simp only[apu,apI]at h;obtain⟨rfl,rfl⟩:=h;simp only[VR]at a b;subst a b;exact .same f (v:=.int _ _) (by simp[binOp,Op.shift,show ¬(_<(0:Int))from arq.2 d]) rfl;split at h;rename_i e;subst e;simp only[VR]at a b;subst a b;exact ahW f h d;cases h;simp only[VR]at a b;subst a b;exact ahV f h d;cases h
theorem Z7(t:TypeId)(x y:Value):Op.equal t x y=Op.equalIn (9999+1) t x y:=rfl
def EqK.fits:EqK->TypeDesc->Bool
 |.bool,.bool|.ptr,.pointer _|.slice,.slice _|.map,.map _ _|.func,.func _ _ _|.iface,.interface _=>true
 |_,_=>false
theorem VR.ptr_shape{i off:Nat}{v:Value}(h:VR E (.ptr i off) v):∃p,v=.pointer (some p):=by simp only[VR]at h;obtain⟨_,_,h⟩:=h;exact⟨_,h⟩
theorem VR.iptr_shape{l:List AV}{off:Nat}{v:Value}(h:VR E (.iptr l off) v):∃p,v=.pointer (some p):=by simp only[VR]at h;obtain⟨_,_,h,_⟩:=h;exact⟨_,h⟩
theorem VR.lsl_shape{i off n s:Nat}{c:Option Nat}{v:Value}(h:VR E (.lsl i off n c s) v):∃p c,v=.slice (some p) n c:=by simp only[VR]at h;obtain⟨_,_,_,_,h,_⟩:=h;exact⟨_,_,h⟩
theorem VR.lmap_shape{i:Nat}{v:Value}(h:VR E (.lmap i) v):∃p,v=.map (some p):=by simp only[VR]at h;obtain⟨_,_,h⟩:=h;exact⟨_,h⟩
theorem VR.func_shape{f:FuncId}{l:List AV}{v:Value}(h:VR E (.func f l) v):∃p,v=.func (.func f) #[] p:=by simp only[VR]at h;obtain⟨_,h,_⟩:=h;exact⟨_,h⟩
theorem VR.iface_shape{t:TypeId}{x:AV}{v:Value}(h:VR E (.iface t x) v):∃p,v=.iface t p:=by simp only[VR]at h;obtain⟨_,h,_⟩:=h;exact⟨_,h⟩
set_option maxHeartbeats 2000000 in
theorem al7{k:EqK}{t:TypeId}{d:TypeDesc}{x y:AV}{u v:Value}{r:Bool}(a:VR E x u)(b:VR E y v)(e:P.underlying t=some d)(c:k.fits d=true)(h:eqA k x y=some r):
  (Op.equal t u v).run P w=.ok r w/\(∀k m,u≠.int k m)/\(∀s,u≠.string s)/\(∀l,u≠.agg l)/\(u=.nilIface->v=.nilIface->k=.iface)/\(∀k f,u≠.float k f)/\(∀k f g,u≠.complex k f g):=by
 rw[Z7];generalize 9999=depth;unfold eqA at h;split at h<;>simp at h<;>subst h<;>cases d<;>simp[EqK.fits]at c
 all_goals
  (first
   |(obtain⟨_,rfl⟩:=a.ptr_shape)|(obtain⟨_,rfl⟩:=a.iptr_shape)|(obtain⟨_,_,rfl⟩:=a.lsl_shape)
   |(obtain⟨_,rfl⟩:=a.lmap_shape)|(obtain⟨_,rfl⟩:=a.func_shape)|(obtain⟨_,rfl⟩:=a.iface_shape)|(simp only[VR]at a;subst a))
  (first
   |(obtain⟨_,rfl⟩:=b.ptr_shape)|(obtain⟨_,rfl⟩:=b.iptr_shape)|(obtain⟨_,_,rfl⟩:=b.lsl_shape)
   |(obtain⟨_,rfl⟩:=b.lmap_shape)|(obtain⟨_,rfl⟩:=b.func_shape)|(obtain⟨_,rfl⟩:=b.iface_shape)|(simp only[VR]at b;subst b))
  (refine⟨?_,asQ,asQ,asQ,asQ,asQ,asQ⟩)
  (simp only[Op.equalIn,apA,run_underlying e,apE,ap7,Option.isNone,beq_self_eq_true])
 rfl
theorem al3{op:BinOp}{k:EqK}{t:TypeId}{d:TypeDesc}{x y:AV}{u v:Value}{r:Bool}(a:Bool)(b:op=if a then .neq else .eql)(e:Rel w0 S0 E L w)(g:VR E x u)(p:VR E y v)(n:P.underlying t=some d)(f:k.fits d=true)(h:eqA k x y=some r)(X Y:Operand)(c:k=.iface->(lN X ||lN Y)=true):
  dA P w0 S0 E L (.bool (if a then !r else r)) w (do eqGuard op t X Y u v;binOp op t u v):=by
 obtain⟨j,o,q,n3,n4,l,i⟩:=al7 (P:=P) (w:=w) g p n f h;have m:(eqGuard op t X Y u v).run P w=.ok () w:=by
  subst b;unfold eqGuard;cases a<;>simp
  all_goals
   split
   .have:=c (n4 rfl rfl);cases X<;>cases Y<;>simp[lN]at this<;>simp
   .exact absurd rfl (n3 _)
   .rfl
 refine .same e (v:=.bool (if a then !r else r)) ?_ (by simp[VR]);rw[apA,m,apE];subst b;cases a<;>simp only[if_true,if_false,apL]
 all_goals
  cases u<;>first
   |exact absurd rfl (o _ _)
   |exact absurd rfl (q _)
   |exact absurd rfl (l _ _)
   |exact absurd rfl (i _ _ _)
   |simp[binOp,j]
theorem afC{op:BinOp}{t e:TypeId}{u:Value}{n:Nat}(a:Bool)(b:op=if a then .neq else .eql)(d:Rel w0 S0 E L w)(i:P.underlying t=some (.slice e))(j:∃p c,u=.slice p n c/\(p=none->n=0))(X Y:Operand):
  dA P w0 S0 E L (if n=0 then .anyb else .bool a) w (do eqGuard op t X Y u (.slice none 0 0);binOp op t u (.slice none 0 0)):=by
 obtain⟨p,c,rfl,k⟩:=j;have f:(Op.equal t (.slice p n c) (.slice none 0 0)).run P w=.ok p.isNone w:=by rw[Z7];generalize 9999=depth;simp only[Op.equalIn,apA,run_underlying i,apE,ap7,Option.isNone];cases p<;>rfl
 have h:(eqGuard op t X Y (.slice p n c) (.slice none 0 0)).run P w=.ok () w:=by unfold eqGuard;simp
 refine .same d (v:=.bool (if a then !p.isNone else p.isNone)) ?_ ?_;rw[apA,h,apE];subst b;cases a<;>simp[binOp,f];split;exact⟨_,rfl⟩;rename_i g;cases p with
 |none=>exact absurd (k rfl) g
 |some p=>cases a<;>rfl
theorem ahU{s d:TypeId}{k:IntKind}{n:Int}{v:Value}{q:IntKind}(c:Rel w0 S0 E L w)(a:∃j,P.underlying s=some (.int j))(e:P.underlying d=some (.int k))(b:VR E (.int q n) v):
  dA P w0 S0 E L (.int k (k.wrap n)) w (convert s d v):=by
 obtain⟨j,a⟩:=a;simp only[VR]at b;subst b;exact .same c (v:=.int _ _) (by simp[convert,run_underlying a,run_underlying e,Conv.intToInt]) rfl
theorem afE{s d:TypeId}{v:Value}{x:AV}(b:Rel w0 S0 E L w)(f:P.underlying s=some .string)(c:P.underlying d=some .string)(a:VR E x v)(e:∃l,x=.str l):
  dA P w0 S0 E L x w (convert s d v):=by
 obtain⟨l,rfl⟩:=e;simp only[VR]at a;subst a;exact .same b (v:=.string _) (by simp[convert,run_underlying f,run_underlying c]) rfl
theorem VR.gsl_sl{l:List AV}{n i s:Nat}{v:Value}(h:VR E (.gsl l n i s) v):VR E (.sl l n none) v/\l.length=n*s:=by
 simp only[VR]at h⊢
 grind
theorem TD{sz n k:Nat}{l:List AV}{cap:Option Nat}{v:Value}(g:Rel w0 S0 E L w)(q:VR E (.sl l n cap) v)(u:l.length=n*sz)(h:k<=n):
  (Builtin.lenOf v).run P w=.ok n w/\∃cs,VRL E (l.take (k*sz)) cs/\cs.length=k*sz/\(Builtin.firstCells sz k v).run P w=.ok ⟨cs⟩ w:=by
 have r:k*sz<=n*sz:=aqw _ h;have d:(l.take (k*sz)).length=k*sz:=by simp;omega
 obtain⟨p,c,rfl,t,y,e⟩:=q;refine⟨by simp[Builtin.lenOf],?_⟩;rcases e with⟨rfl,rfl,rfl⟩|⟨b,o,rfl,e⟩;have:k=0:=asP;subst this;exact⟨[],by simp[VRL],asQ,by cases p<;>simp[Builtin.firstCells,loadCells,loadCellsFrom]⟩;obtain⟨cs,h4,f⟩:=jd (P:=P) (w:=w) (b:=b) (o:=o) (l:=l.take (k*sz)) λj a s=>by obtain⟨x,i,m⟩:=(e.take (k*sz)).get s;exact⟨x,g.mem _ _ _ i,m⟩
 exact⟨cs,h4,by rw[h4.length,d],by rw[d]at f;simpa[Builtin.firstCells]using f⟩
theorem bW{sz:Nat}{x:AV}{v:Value}{c:Prop}{l:List AV}{n:Nat}(z:Rel w0 S0 E L w)(f:VR E x v)(h:elems L sz x=some (c,l,n))(A:c):
  (Builtin.lenOf v).run P w=.ok n w/\l.length=n*sz/\∃cs,VRL E l cs/\(Builtin.firstCells sz n v).run P w=.ok ⟨cs⟩ w:=by
 unfold elems at h;split at h;simp only[apu,apI]at h;obtain⟨rfl,rfl,rfl⟩:=h;simp only[VR]at f;subst f;exact⟨by simp[Builtin.lenOf],asQ,[],by simp[VRL],by simp[Builtin.firstCells]⟩;rename_i l m cap;simp only[apu,apI]at h;obtain⟨rfl,rfl,rfl⟩:=h;obtain⟨p,cs,u,_,I⟩:=TD (P:=P) z f A (apt _)
 grind
 rename_i l m i s;simp only[apu,apI]at h;obtain⟨rfl,rfl,rfl⟩:=h;subst A;obtain⟨f,A⟩:=f.gsl_sl;obtain⟨p,cs,u,_,I⟩:=TD (P:=P) z f A (apt _)
 grind
 rename_i i off m cap s;split at h;rename_i r D;simp only[apu,apI]at h;obtain⟨rfl,rfl,rfl⟩:=h;simp only[VR]at f;obtain⟨k,N,d,p,rfl,u,I,h4,Q⟩:=f;obtain⟨k',J,ty,fr,g1,C,g3,g4,G,O⟩:=z.blk i _ D;rw[p]at g1;cases g1;have e:((r.drop off).take (m*sz)).length=m*sz:=by simp;omega
 refine⟨by simp[Builtin.lenOf],e,?_⟩;rcases aqQ m with q|q;subst q;exact⟨[],by simp[VRL],by simp[Builtin.firstCells,loadCells,loadCellsFrom]⟩;have M:=u asP;subst M;obtain⟨cs,B,t⟩:=jd (P:=P) (w:=w) (b:=k.blk) (o:=k.off+off) (l:=(r.drop off).take (m*sz)) λj a g=>by have H:j<m*sz:=(by have:=(aps.1 g).1;omega);rw[aqs H,aqo]at g;obtain⟨x,y,F⟩:=G _ _ g;refine⟨x,?_,F⟩;rw[<- aqx]at y;simp[World.cell?,C,y]
 exact⟨cs,B,by rw[e]at t;simpa[Builtin.firstCells]using t⟩;rename_i r D;simp only[apu,apI]at h;obtain⟨rfl,rfl,rfl⟩:=h;simp only[VR]at f;obtain⟨k,N,d,p,rfl,u,I,h4,Q⟩:=f;obtain⟨k',J,ty,fr,g1,C,g3,g4,G,O⟩:=z.blk i _ D;rw[p]at g1;cases g1;have e:((r.drop off).take (m*sz)).length=m*sz:=by simp;omega
 refine⟨by simp[Builtin.lenOf],e,?_⟩;rcases aqQ m with q|q;subst q;exact⟨[],by simp[VRL],by simp[Builtin.firstCells,loadCells,loadCellsFrom]⟩;have M:=u asP;subst M;obtain⟨cs,B,t⟩:=jd (P:=P) (w:=w) (b:=k.blk) (o:=k.off+off) (l:=(r.drop off).take (m*sz)) λj a g=>by have H:j<m*sz:=(by have:=(aps.1 g).1;omega);rw[aqs H,aqo]at g;obtain⟨x,y,F⟩:=G _ _ g;refine⟨x,?_,F⟩;rw[<- aqx]at y;simp[World.cell?,C,y]
 exact⟨cs,B,by rw[e]at t;simpa[Builtin.firstCells]using t⟩;cases h;split at h;rename_i s K;simp only[apu,apI]at h;obtain⟨rfl,rfl,rfl⟩:=h;simp only[VR]at f;subst f;subst K;refine⟨by simp[Builtin.lenOf];rfl,by simp[u8s],s.map λb=>.int .u8 b.toNat,?_,?_⟩;refine VRL.of_get (by simp[u8s]) λi a g=>?_
 simp only[u8s,aqk,ap6]at g⊢;obtain⟨b,p,rfl⟩:=g;exact⟨_,⟨b,p,rfl⟩,rfl⟩;have:(ByteArray.mk ⟨s⟩).extract 0 s.length=⟨⟨s⟩⟩:=by apply ByteArray.ext;simp
 simp[Builtin.firstCells,this];cases h;cases h
end
section
variable {P:Program}{w0:World}{S0:SB}{E:Env}{L:List Blk}{w:World}{T:Tm}{a:Act}
theorem aaC:∀(l:List AV) (cs:List Value) (s:ByteArray),VRL E l cs->l.all aft=true ->
  ((forIn (m := Sem) cs s fun c r => match c with
    |.int .u8 n=>pure (.yield (r.push (UInt8.ofNat n.toNat)))
    | _=>do
      stuck (α:=PUnit) "bytesToString: byte expected"
      pure (.yield r)):Sem ByteArray).run P w=.ok ⟨s.data++(l.map ach).toArray⟩ w
 |[],cs,s,h,_=>by simp only[VRL]at h;subst h;simp
 | a::l,cs,s,h,hb=>by
   obtain⟨x,xs,rfl,e,f⟩:=h;simp only[aqE,apw]at hb;obtain⟨d,b⟩:=hb;have:∃n,a=.int .u8 n:=by
    unfold aft at d
    grind
   obtain⟨n,rfl⟩:=this;simp only[VR]at e;subst e;have g:=aaC l xs (s.push (UInt8.ofNat n.toNat)) f b;simp only[List.forIn_cons,apA,ap7,apE];rw[g];congr 1;simp[ByteArray.push,ach]
theorem N9(w:World)(c:Array Value)(e:TypeId):World.freeze {w with heap:=w.heap.push (.cells c e)} ⟨w.heap.size,c.size,none⟩ 1={w with heap:=w.heap.push (.cells c e (c.size,c.size+1))}:=by
 simp only[World.freeze,Nat.one_ne_zero,if_false];congr 1
 grind
theorem Sx(w:World)(c:Array Value)(e:TypeId):World.shape? {w with heap:=w.heap.push (.cells c e)} w.heap.size=some (e,c.size):=by simp only[World.shape?,Array.getElem?_push_size]
theorem aj5{s d e:TypeId}{x:AV}{v:Value}{c:Prop}{l:List AV}{n:Nat}(j:Rel w0 S0 E L w)(C:P.underlying s=some (.slice e))(q:P.underlying e=some (.int .u8))(A:P.underlying d=some .string)(b:VR E x v)(h:elems L 1 x=some (c,l,n))(o:c)(y:l.all aft=true)(D:∀t,x≠.str t):dA P w0 S0 E L (.str (l.map ach)) w (convert s d v):=by
 obtain⟨u,F,cs,i,h4⟩:=bW (P:=P) j b h o;refine .same j (v:=.string ⟨⟨l.map ach⟩⟩) ?_ (by simp[VR]);have f:∃a n c,v=.slice a n c:=by cases x<;>simp[elems]at h;simp_all;simp only[VR]at b;exact⟨_,_,_,b⟩;simp only[VR]at b;obtain⟨_,_,rfl,_⟩:=b;exact⟨_,_,_,rfl⟩;obtain⟨_,_,rfl⟩:=b.lsl_shape;exact⟨_,_,_,rfl⟩;simp only[VR]at b;obtain⟨_,_,rfl,_⟩:=b;exact⟨_,_,_,rfl⟩
 obtain⟨a,m,k,rfl⟩:=f;have B:m=n:=by simpa[Builtin.lenOf]using u
 subst B;have g:(convert s d (.slice a m k)).run P w=(Conv.bytesToString (.slice a m k)).run P w:=by simp[convert,run_underlying C,run_underlying A,run_underlying q]
 rw[g];cases a with
 | none =>
   have:cs=[]:=(by simpa[Builtin.firstCells]using h4.symm);subst this;have z:l=[]:=(by have:=i.length;simpa using this.symm);subst z;rfl
 | some p =>
   simp only[Builtin.firstCells,Nat.mul_one]at h4;simp only[Conv.bytesToString,apA,h4,apE];have:=aaC (P:=P) (w:=w) l cs ByteArray.empty i y;rw[show(⟨cs⟩:Array Value)=cs.toArray from rfl,List.forIn_toArray];refine(congrArg (λr=>Result.andThen r λa w'=>(Pure.pure (Value.string a):Sem Value).run P w') this).trans ?_;simp
theorem aj2{s d e:TypeId}{v:Value}{x:List UInt8}(c:Rel w0 S0 E L w)(B:P.underlying s=some .string)(A:P.underlying d=some (.slice e))(u:P.underlying e=some (.int .u8))(n:VR E (.str x) v):
  dA P w0 S0 E L (.sl (u8s x) x.length none) w (convert s d v):=by
 simp only[VR]at n;subst n;have m:(ByteArray.mk ⟨x⟩).size=x.length:=rfl;obtain⟨cap,f⟩:∃cap,cap=(Question.appendCap x.length 0 e).cut (w.tape w.drawn (.appendCap x.length 0 e)):=⟨_,rfl⟩;have p:x.length<=cap:=by rw[f];simp[Question.cut]
 have h:VRL E (u8s x) (x.map λb=>Value.int .u8 b.toNat):=VRL.of_get (by simp[u8s]) λi a o=>by simp only[u8s,aqk,ap6]at o⊢;obtain⟨b,y,rfl⟩:=o;exact⟨_,⟨b,y,rfl⟩,rfl⟩
 have j:Rel w0 S0 E L {w with drawn:=w.drawn+1}:=⟨c.mem,λi k t=>bZ.world (λ_ _=>rfl) (λ_ _ _ _=>rfl) (c.blk i k t),c.fresh,c.own,c.inj,c.tkfresh,c.tkown,c.tkloc,c.tkinj,c.frame,c.size,c.os,c.tape,c.output,c.glob,c.gsz⟩;obtain⟨q,z,r,C,_⟩:=j.imm (x.map λb=>Value.int .u8 b.toNat) e (u8s x) h (List.replicate (cap-x.length) (.int .u8 0)) (x.length+(cap-x.length),x.length+(cap-x.length)+1);have key:(convert s d (.string ⟨⟨x⟩⟩)).run P w=.ok (.slice (some ⟨w.heap.size,0,none⟩) x.length cap) {w with heap:=w.heap.push (.cells ⟨(x.map λb=>Value.int .u8 b.toNat)++List.replicate (cap-x.length) (.int .u8 0)⟩ e (x.length+(cap-x.length),x.length+(cap-x.length)+1)),drawn:=w.drawn+1}:=by
  have g:((ByteArray.mk ⟨x⟩).data.map λb=>Value.int .u8 b.toNat)++Array.replicate (cap-x.length) (.int .u8 0)=⟨(x.map λb=>Value.int .u8 b.toNat)++List.replicate (cap-x.length) (.int .u8 0)⟩:=by simp
  have l:(convert s d (.string ⟨⟨x⟩⟩)).run P w=(Conv.stringToBytes e ⟨⟨x⟩⟩).run P w:=by simp only[convert,apA,run_underlying B,run_underlying A,apE,run_underlying u]
  rw[l];unfold Conv.stringToBytes;simp only[apA,run_choose,Question.forced,m,<- f,g,newRow,run_newObj,apE,ap7,markStringish,run_shape,apL,if_false];rw[Sx {w with drawn:=w.drawn+1}];simp only[run_freeze,apE];rw[N9 {w with drawn:=w.drawn+1}];simp
 refine⟨q,.slice (some ⟨w.heap.size,0,none⟩) x.length cap,_,key,z,?_,r⟩;simp only[VR]
 grind
theorem ahO{s d e:TypeId}{v:Value}{x:List UInt8}(c:Rel w0 S0 E L w)(C:P.underlying s=some .string)(B:P.underlying d=some (.slice e))(u:P.underlying e=some (.int .u8))(o:VR E (.str x) v):
  dA P w0 S0 E (L++[.bytes (u8s x)]) (.lsl L.length 0 x.length none 1) w (convert s d v):=by
 simp only[VR]at o;subst o;have n:(ByteArray.mk ⟨x⟩).size=x.length:=rfl;obtain⟨cap,f⟩:∃cap,cap=(Question.appendCap x.length 0 e).cut (w.tape w.drawn (.appendCap x.length 0 e)):=⟨_,rfl⟩;have j:x.length<=cap:=by rw[f];simp[Question.cut]
 have h:VRL E (u8s x) (x.map λb=>Value.int .u8 b.toNat):=VRL.of_get (by simp[u8s]) λi a p=>by simp only[u8s,aqk,ap6]at p⊢;obtain⟨b,z,rfl⟩:=p;exact⟨_,⟨b,z,rfl⟩,rfl⟩
 have l:Rel w0 S0 E L {w with drawn:=w.drawn+1}:=⟨c.mem,λi k t=>bZ.world (λ_ _=>rfl) (λ_ _ _ _=>rfl) (c.blk i k t),c.fresh,c.own,c.inj,c.tkfresh,c.tkown,c.tkloc,c.tkinj,c.frame,c.size,c.os,c.tape,c.output,c.glob,c.gsz⟩;obtain⟨q,A,r,y⟩:=adG l h (List.replicate (cap-x.length) (.int .u8 0)) e (x.length+(cap-x.length),x.length+(cap-x.length)+1) (by simp;omega);have key:(convert s d (.string ⟨⟨x⟩⟩)).run P w=.ok (.slice (some ⟨w.heap.size,0,none⟩) x.length cap) {w with heap:=w.heap.push (.cells ⟨(x.map λb=>Value.int .u8 b.toNat)++List.replicate (cap-x.length) (.int .u8 0)⟩ e (x.length+(cap-x.length),x.length+(cap-x.length)+1)),drawn:=w.drawn+1}:=by
  have g:((ByteArray.mk ⟨x⟩).data.map λb=>Value.int .u8 b.toNat)++Array.replicate (cap-x.length) (.int .u8 0)=⟨(x.map λb=>Value.int .u8 b.toNat)++List.replicate (cap-x.length) (.int .u8 0)⟩:=by simp
  have m:(convert s d (.string ⟨⟨x⟩⟩)).run P w=(Conv.stringToBytes e ⟨⟨x⟩⟩).run P w:=by simp only[convert,apA,run_underlying C,run_underlying B,apE,run_underlying u]
  rw[m];unfold Conv.stringToBytes;simp only[apA,run_choose,Question.forced,n,<- f,g,newRow,run_newObj,apE,ap7,markStringish,run_shape,apL,if_false];rw[Sx {w with drawn:=w.drawn+1}];simp only[run_freeze,apE];rw[N9 {w with drawn:=w.drawn+1}];simp
 refine⟨q,.slice (some ⟨w.heap.size,0,none⟩) x.length cap,_,key,A,?_,y⟩;refine⟨_,cap,0,r,rfl,asQ,j,asQ,?_⟩;simp_all
theorem ahP{s d e:TypeId}{v:Value}{x:List UInt8}(f:Rel w0 S0 E L w)(Y:P.underlying s=some .string)(W:P.underlying d=some (.slice e))(Q:P.underlying e=some (.int .u8))(B:VR E (.str x) v):
  dA P w0 S0 E (L++[.spare x.length 1]) (.gsl (u8s x) x.length L.length 1) w (convert s d v):=by
 simp only[VR]at B;subst B;have y:(ByteArray.mk ⟨x⟩).size=x.length:=rfl;obtain⟨cap,g⟩:∃cap,cap=(Question.appendCap x.length 0 e).cut (w.tape w.drawn (.appendCap x.length 0 e)):=⟨_,rfl⟩;have z:x.length<=cap:=by rw[g];simp[Question.cut]
 have p:VRL E (u8s x) (x.map λb=>Value.int .u8 b.toNat):=VRL.of_get (by simp[u8s]) λi a C=>by simp only[u8s,aqk,ap6]at C⊢;obtain⟨b,A,rfl⟩:=C;exact⟨_,⟨b,A,rfl⟩,rfl⟩
 have u:Rel w0 S0 E L {w with drawn:=w.drawn+1}:=⟨f.mem,λi k m=>bZ.world (λ_ _=>rfl) (λ_ _ _ _=>rfl) (f.blk i k m),f.fresh,f.own,f.inj,f.tkfresh,f.tkown,f.tkloc,f.tkinj,f.frame,f.size,f.os,f.tape,f.output,f.glob,f.gsz⟩;obtain⟨I,S,N,O,M,K,J⟩:=u.imm' (x.map λb=>Value.int .u8 b.toNat) e (u8s x) p (List.replicate (cap-x.length) (.int .u8 0)) (x.length+(cap-x.length),x.length+(cap-x.length)+1);have key:(convert s d (.string ⟨⟨x⟩⟩)).run P w=.ok (.slice (some ⟨w.heap.size,0,none⟩) x.length cap) {w with heap:=w.heap.push (.cells ⟨(x.map λb=>Value.int .u8 b.toNat)++List.replicate (cap-x.length) (.int .u8 0)⟩ e (x.length+(cap-x.length),x.length+(cap-x.length)+1)),drawn:=w.drawn+1}:=by
  have h:((ByteArray.mk ⟨x⟩).data.map λb=>Value.int .u8 b.toNat)++Array.replicate (cap-x.length) (.int .u8 0)=⟨(x.map λb=>Value.int .u8 b.toNat)++List.replicate (cap-x.length) (.int .u8 0)⟩:=by simp
  have q:(convert s d (.string ⟨⟨x⟩⟩)).run P w=(Conv.stringToBytes e ⟨⟨x⟩⟩).run P w:=by simp only[convert,apA,run_underlying Y,run_underlying W,apE,run_underlying Q]
  rw[q];unfold Conv.stringToBytes;simp only[apA,run_choose,Question.forced,y,<- g,h,newRow,run_newObj,apE,ap7,markStringish,run_shape,apL,if_false];rw[Sx {w with drawn:=w.drawn+1}];simp only[run_freeze,apE];rw[N9 {w with drawn:=w.drawn+1}];simp
 have l:aih w0 S0 I L {w with heap:=w.heap.push (.cells ⟨(x.map λb=>Value.int .u8 b.toNat)++List.replicate (cap-x.length) (.int .u8 0)⟩ e (x.length+(cap-x.length),x.length+(cap-x.length)+1)),drawn:=w.drawn+1} L.length x.length 1 (some ⟨w.heap.size,0,cap⟩):=by rintro k m;cases m;refine⟨⟨_,_,_,Array.getElem?_push_size,by simp;omega,λo A X=>by simp only at X⊢;omega⟩,λo V=>J o (by simpa using V),.inr f.size,λj k' c t U F e=>?_,λj Z H t' k' R t G r e=>?_⟩;rw[M]at F;have:=f.loc_lt t U F;simp_all;rw[K]at G;have:=f.tok_lt t G r;simp_all
 obtain⟨D,T⟩:=N.addtok (n:=x.length) (sz:=1) l;refine⟨_,.slice (some ⟨w.heap.size,0,none⟩) x.length cap,_,key,S.trans D,?_,T⟩;exact⟨_,cap,rfl,z,by simp[u8s],.inr ⟨_,0,rfl,VRC.mono D _ _ _ O⟩,⟨x.length,1,some ⟨w.heap.size,0,cap⟩⟩,asQ,asQ,λ_=>⟨rfl,asQ,λk m=>by cases m;exact⟨rfl,asQ⟩⟩⟩
theorem aee{t:TypeId}{v:Value}{x:List UInt8}(c:Rel w0 S0 E L w)(b:P.underlying t=some .string)(a:VR E (.str x) v):
  dA P w0 S0 E (L++[.siter x 0]) (.ptr L.length 0) w (Instr.range t v):=by
 simp only[VR]at a;subst a;have:=c.push (.stringIter ⟨⟨x⟩⟩ 0) (.siter x 0) ⟨w.heap.size,0,0⟩ rfl rfl ⟨⟨w.heap.size,0,0⟩,asQ,asQ,rfl⟩;refine⟨_,.pointer (some ⟨w.heap.size,0,none⟩),_,?_,this.1,?_,this.2⟩;simp[Instr.range,run_underlying b];simp only[VR];simp
theorem afF{t:TypeId}{v:Value}{i p:Nat}{x:List UInt8}(g:Rel w0 S0 E L w)(m:L[i]?=some (.siter x p))(s:VR E (.ptr i 0) v):
  dA P w0 S0 E (if p<x.length then L.set i (.siter x (p+(Yr x p).2))else L) (if p<x.length then .tup [.bool true,.int .i64 (p:Int),.int .i32 ((Yr x p).1:Int)]else .tup [.bool false]) w (Instr.next v true t):=by
 obtain⟨c,f,rfl⟩:=s;obtain⟨c',n,k,l⟩:=g.blk i _ m;rw[f]at n;cases n;have d:(ByteArray.mk ⟨x⟩).size=x.length:=rfl;have j:c.blk<w.heap.size:=(aqh.1 k).1;have q:(getObj c.blk).run P w=.ok (.stringIter ⟨⟨x⟩⟩ p) w:=by simp[getObj,Sem.run,k]
 have h:∀o,(setObj c.blk o).run P w=.ok () {w with heap:=w.heap.setIfInBounds c.blk o}:=λo=>by simp[setObj,Sem.run,k]
 rw[l];by_cases a:p<x.length;rw[if_pos a,if_pos a];have:=g.turn (w':={w with heap:=w.heap.setIfInBounds c.blk (.stringIter ⟨⟨x⟩⟩ (p+(Yr x p).2))}) (k':=.siter x (p+(Yr x p).2)) m rfl f asQ (λb r=>by simp[arV,Ne.symm r]) rfl rfl rfl
  ⟨c,f,by simp[j],l⟩ (λ_ _ e=>by cases e)
 refine⟨E,.tuple #[.bool true,goInt p,.int .i32 ((Yr x p).1:Int)],_,?_,.refl E,?_,this⟩;simp[Instr.next,q,d,a,h,Yr];simp[VR,VRL,goInt];rw[if_neg a,if_neg a];refine .same g (v:=.tuple #[.bool false]) (by simp[Instr.next,q,d,a]) ?_;simp[VR,VRL]
end
section
variable {P:Program}{w0:World}{S0:SB}{E:Env}{L:List Blk}{w:World}{T:Tm}{a:Act}
theorem acK{t e:TypeId}{s b:Nat}{z:List AV}{n m:Int}{k j:IntKind}(o:Rel w0 S0 E L w)(y:P.underlying t=some (.slice e))(G:dt P e=some s)(h:aaD P e=some b)(C:zOf P e=some z)(c:z.length=s)(g:0<=n)(I:n<=m)(H:b*m<=2^48)(J:m<2^62):
  dA P w0 S0 E (L++[.cells (gq z m.toNat)]) (.lsl L.length 0 n.toNat (some m.toNat) s) w (Instr.makeSlice t (.int k n) (.int j m)):=by
 obtain⟨v,g1,l,_⟩:=To (w:=w) (E:=E) C;have B:v.cells.size=s:=by have:=l.length;simpa[c]using this
 have a:VRL E (gq z m.toNat) ((Array.range (m.toNat*s)).map (v.cells[· % v.cells.size]!)).toList:=by have:=TI l m.toNat;simp_all
 obtain⟨i,u,d⟩:∃i,P.info? e=some i/\i.bytes=b:=by unfold aaD at h;simpa using h
 have f:(typeInfo e).run P w=.ok i w:=by simp[typeInfo,u]
 obtain⟨E',q,D,r⟩:=td o a [] e (0,0) asQ;have x:IntKind.i64.wrap n=n:=by simp only[IntKind.wrap,IntKind.bits,IntKind.signed];simp;omega
 have p:IntKind.i64.wrap m=m:=by simp only[IntKind.wrap,IntKind.bits,IntKind.signed];simp;omega
 refine⟨E',.slice (some ⟨w.heap.size,0,none⟩) n.toNat m.toNat,_,?_,q,?_,r⟩;have F:(decide (m<0) ||decide ((b:Int)*m>2^48))=false:=by simp;omega
 have c2:(decide (n<0))=false:=by simp;omega
 have c3:(decide (n>m))=false:=by simp;omega
 simp only[Instr.makeSlice,apA,run_underlying y,apE,asInt,asIntOf,ap7,f,d,x,p,F,c2,c3,Bool.or_self,apL,if_false,run_askRoom,cE G];by_cases g:m.toNat*s=0;have A:Array.range 0=#[]:=rfl;simp[g,A,newRow];simp[g,g1,newRow];congr 2
 grind
 refine⟨_,m.toNat,0,D,rfl,asQ,asP,asQ,?_⟩;simp
theorem amf{x:Option Operand}{y:Option Opd}{r:Option Int}(c:TR E T a)(h:wa x=some y)(b:bnd T y=some r):
  (x=none/\r=none)\/∃o k n,x=some o/\r=some n/\a.eval o=.int k n:=by
 cases x with
 |none=>simp[wa]at h;subst h;simp[bnd]at b;exact .inl ⟨rfl,b.symm⟩
 | some o =>
   simp only[wa,ap6]at h;obtain⟨u,d,rfl⟩:=h;simp only[bnd]at b;split at b
   .rename_i k n hn;simp at b;subst b;have:=ao d hn c;simp only[VR]at this;simp[*]
   simp_all
theorem dq{k:IntKind}{n:Int}{y:Nat}{c:BoundsCode}(b:0<=n)(a:n<=y):(Instr.sliceBound (.int k n) y c).run P w=.ok n.toNat w:=by simp[Instr.sliceBound,asIntOf,b,a]
theorem ig{b:Bool}{len cap:Nat}{f e:Option Operand}{c d:Option Int}(h:(f=none/\c=none)\/∃o k n,f=some o/\c=some n/\a.eval o=.int k n)(g:(e=none/\d=none)\/∃o k n,e=some o/\d=some n/\a.eval o=.int k n)(m:0<=c.getD 0)(l:c.getD 0<=d.getD len)(p:d.getD len<=cap)(q:len<=cap):
  (Instr.sliceBounds b len cap (f.map a.eval) (e.map a.eval) none).run P w=.ok ((c.getD 0).toNat,(d.getD len).toNat,cap) w:=by
 rcases h with⟨rfl,rfl⟩|⟨o1,s,u,rfl,rfl,i⟩<;>rcases g with⟨rfl,rfl⟩|⟨t,r,v,rfl,rfl,j⟩<;>simp only[arH,aql]at m l p;rfl;simp only[Instr.sliceBounds,aqb,apN,j,apA,ap7,apE];rw[dq asP asP];simp;simp only[Instr.sliceBounds,aqb,apN,i,apA,ap7,apE];rw[dq asP asP];simp;simp only[Instr.sliceBounds,aqb,apN,i,j,apA,ap7,apE];rw[dq asP asP];simp only[apE];rw[dq asP asP];simp
theorem aj1{t:TypeId}{v:Value}{x:List UInt8}{f e:Option Operand}{c d:Option Int}(l:Rel w0 S0 E L w)(r:P.underlying t=some .string)(j:VR E (.str x) v)(i:(f=none/\c=none)\/∃o k n,f=some o/\c=some n/\a.eval o=.int k n)(h:(e=none/\d=none)\/∃o k n,e=some o/\d=some n/\a.eval o=.int k n)(p:0<=c.getD 0)(m:c.getD 0<=d.getD x.length)(s:d.getD x.length<=x.length):
  dA P w0 S0 E L (.str ((x.drop (c.getD 0).toNat).take ((d.getD x.length).toNat-(c.getD 0).toNat))) w (Instr.sliceAt t v (f.map a.eval) (e.map a.eval) none):=by
 simp only[VR]at j;subst j;have g:(ByteArray.mk ⟨x⟩).size=x.length:=rfl;refine .same l (v:=.string ⟨⟨(x.drop (c.getD 0).toNat).take ((d.getD x.length).toNat-(c.getD 0).toNat)⟩⟩) ?_ (by simp[VR]);have q:=ig (P:=P) (w:=w) (b:=false) i h p m s (apt _);simp only[Instr.sliceAt,Instr.slice,apA,run_underlying r,apE,g,asg,apL,if_false,q];simp only[ap7];congr 2;apply ByteArray.ext;simp
theorem ZY{t:TypeId}{p:Array Field}{f:Nat}{a:Field}{x:AV}{v:Value}(m:Rel w0 S0 E L w)(s:P.underlying t=some (.struct p))(r:p.toList[f]?=some a)(q:(dt P a.type).getD 0≠0)(j:VR E x v):
  (∀i off,x=.ptr i off->dA P w0 S0 E L (.ptr i (off+a.offset)) w (Instr.fieldAt t v f))/\(∀l off,x=.iptr l off->dA P w0 S0 E L (.iptr l (off+a.offset)) w (Instr.fieldAt t v f)):=by
 obtain⟨n,k⟩:∃n,dt P a.type=some n:=by rcases h:dt P a.type with _|n;simp_all;simp
 simp only[k,aql]at q;rw[asA]at r;have d:∀b o,(Instr.fieldAt t (.pointer (some ⟨b,o,none⟩)) f).run P w=.ok (.pointer (some ⟨b,o+a.offset,none⟩)) w:=λb o=>by simp[Instr.fieldAt,run_underlying s,r,Instr.sureAddr,fieldPlace,cE k,q,Addr.add_mk]
 refine⟨λi off e=>?_,λl off e=>?_⟩<;>subst e<;>simp only[VR]at j;obtain⟨c,g,rfl⟩:=j;exact .same m (d _ _) ⟨c,g,by rw[aqx]⟩;obtain⟨b,o,rfl,g⟩:=j;exact .same m (d _ _) ⟨b,o,by rw[aqx],g⟩
theorem ZX{t:TypeId}{m:Array Field}{f sz:Nat}{g:Bool}{a:Field}{l:List AV}{v:Value}(j:Rel w0 S0 E L w)(n:P.underlying t=some (.struct m))(h:m.toList[f]?=some a)(k:nB P a.type=some g)(r:dt P a.type=some sz)(q:VR E (.agg l) v):
  (g=true->a.offset+sz<=l.length->dA P w0 S0 E L (.agg ((l.drop a.offset).take sz)) w (Instr.field t v f))/\(g=false->a.offset<l.length->dA P w0 S0 E L (l.getD a.offset .undef) w (Instr.field t v f)):=by
 rw[asA]at h;obtain⟨vs,rfl,b⟩:=q;refine⟨λe c=>?_,λe c=>?_⟩<;>subst e;refine .same j (v:=.agg ((⟨vs⟩:Array Value).extract a.offset (a.offset+sz))) (by simp[Instr.field,run_underlying n,h,asAgg,part,Ei k,cE r]) ?_;refine⟨(vs.drop a.offset).take sz,asQ,VRL.of_get (by simp[b.length]) λi x d=>?_⟩;have p:i<sz:=by have:=(aps.1 d).1;simp at this;omega
 rw[aqs p,aqo]at d⊢;exact b.get d;obtain⟨x,o,s⟩:=b.get (apD c);refine .same j (v:=x) (by simp[Instr.field,run_underlying n,h,asAgg,part,Ei k,o]) ?_;simp[*]
theorem SR{t e:TypeId}{sz:Nat}{x:AV}{v:Value}{j:IntKind}{k:Int}(m:Rel w0 S0 E L w)(y:P.underlying t=some (.slice e))(z:dt P e=some sz)(h:VR E x v)(u:0<=k):
  (∀l n c,x=.sl l n c->k<n->dA P w0 S0 E L (.iptr l (k.toNat*sz)) w (Instr.indexAt t v (.int j k))) /\
  (∀i off n c s,x=.lsl i off n c s->k<n->dA P w0 S0 E L (.ptr i (off+k.toNat*sz)) w (Instr.indexAt t v (.int j k))):=by
 have a:∀b o n c,k<(n:Nat)->(Instr.indexAt t (.slice (some ⟨b,o,none⟩) n c) (.int j k)).run P w=.ok (.pointer (some ⟨b,o+k.toNat*sz,none⟩)) w:=λb o n c f=>by simp[Instr.indexAt,asIntOf,run_underlying y,u,f,cE z,Addr.add_mk]
 refine⟨λl n c e f=>?_,λi off n c s e f=>?_⟩<;>subst e<;>simp only[VR]at h;obtain⟨p,k',rfl,q,r,g⟩:=h;rcases g with⟨rfl,rfl,rfl⟩|⟨b,o,rfl,g⟩;omega;exact .same m (a _ _ _ _ f) ⟨b,o,rfl,g⟩;obtain⟨c',A,d,q,rfl,r,g,h4⟩:=h;have:=r asP;subst this;exact .same m (a _ _ _ _ f) ⟨c',q,by rw[aqx]⟩
theorem Yg{t e:TypeId}{sz n:Nat}{x:AV}{v:Value}{j:IntKind}{k:Int}(d:Rel w0 S0 E L w)(p:P.underlying t=some (.array n e))(q:dt P e=some sz)(c:VR E x v)(m:0<=k)(g:k<n):
  (∀l off,x=.iptr l off->dA P w0 S0 E L (.iptr l (off+k.toNat*sz)) w (Instr.indexAt t v (.int j k))) /\
  (∀i off,x=.ptr i off->dA P w0 S0 E L (.ptr i (off+k.toNat*sz)) w (Instr.indexAt t v (.int j k))):=by
 have a:∀b o,(Instr.indexAt t (.pointer (some ⟨b,o,none⟩)) (.int j k)).run P w=.ok (.pointer (some ⟨b,o+k.toNat*sz,none⟩)) w:=λb o=>by simp[Instr.indexAt,asIntOf,run_underlying p,m,g,cE q,Addr.add_mk,Instr.sureAddr]
 refine⟨λl off e=>?_,λi off e=>?_⟩<;>subst e<;>simp only[VR]at c;obtain⟨b,o,rfl,f⟩:=c;exact .same d (a _ _) ⟨b,o,by rw[aqx],f⟩;obtain⟨c',h,rfl⟩:=c;exact .same d (a _ _) ⟨c',h,by rw[aqx]⟩
theorem ahT{t:TypeId}{s:List UInt8}{v:Value}{j:IntKind}{k:Int}(d:Rel w0 S0 E L w)(e:P.underlying t=some .string)(c:VR E (.str s) v)(f:0<=k)(g:k<s.length):
  dA P w0 S0 E L (.int .u8 (s.getD k.toNat 0).toNat) w (Instr.index t v (.int j k)):=by
 simp only[VR]at c;subst c;have a:k.toNat<s.length:=asP;refine .same d (v:=.int .u8 (s[k.toNat]).toNat) ?_ (by simp[VR,a]);have:(ByteArray.mk ⟨s⟩)[k.toNat]?=some s[k.toNat]:=by have b:k.toNat<(ByteArray.mk ⟨s⟩).size:=a;rw[getElem?_pos (ByteArray.mk ⟨s⟩) k.toNat b];rfl
 simp[Instr.index,asIntOf,run_underlying e,f,this]
theorem acL{l:List AV}{i:Nat}{x:AV}{v:Value}(c:Rel w0 S0 E L w)(b:VR E (.tup l) v)(h:l[i]?=some x):dA P w0 S0 E L x w (Instr.extract v i):=by obtain⟨vs,rfl,a⟩:=b;obtain⟨y,e,d⟩:=a.get h;exact .same c (v:=y) (by simp[Instr.extract,e]) d
end
section
variable {P:Program}{w0:World}{S0:SB}{E:Env}{L:List Blk}{w:World}{T:Tm}{a:Act}
abbrev Wt(a:Act)(x:Option Operand)(r:Option Int):Prop:=(x=none/\r=none)\/∃o k n,x=some o/\r=some n/\a.eval o=.int k n
theorem acI{t e:TypeId}{v:Value}{h j:Option Operand}{c d:Option Int}{sz:Nat}(m:Rel w0 S0 E L w)(n:P.underlying t=some (.slice e))(k:dt P e=some sz)(i:VR E .nilsl v)(g:Wt a h c)(f:Wt a j d)(p:c.getD 0=0)(o:d.getD 0=0):dA P w0 S0 E L .nilsl w (Instr.sliceAt t v (h.map a.eval) (j.map a.eval) none):=by
 simp only[VR]at i;subst i;have l:=ig (P:=P) (w:=w) (b:=true) (len:=0) (cap:=0) g f asP (by simp only[Int.natCast_zero];omega) (by simp only[Int.natCast_zero];omega) (apt _);refine .same m (v:=.slice none 0 0) ?_ (by simp[VR]);simp only[Instr.sliceAt,Instr.slice,apA,run_underlying n,apE,l,cE k,ap7];simp[*]
theorem ZW{t e:TypeId}{v:Value}{s u:Option Operand}{f g:Option Int}{sz n:Nat}{x:AV}(B:Rel w0 S0 E L w)(K:P.underlying t=some (.slice e))(M:dt P e=some sz)(F:VR E x v)(z:Wt a s f)(y:Wt a u g)(J:0<=f.getD 0)(H:f.getD 0<=g.getD n):
  (∀ l cap,x=.sl l n cap->g.getD n<=n->dA P w0 S0 E L (.sl ((l.drop ((f.getD 0).toNat * sz)).take (((g.getD n).toNat - (f.getD 0).toNat) * sz)) ((g.getD n).toNat - (f.getD 0).toNat) (cap.map (· - (f.getD 0).toNat))) w
   (Instr.sliceAt t v (s.map a.eval) (u.map a.eval) none)) /\
  (∀ i off cap,x=.lsl i off n cap sz->g.getD n<=((cap.getD n:Nat):Int)->dA P w0 S0 E L (.lsl i (off+(f.getD 0).toNat * sz) ((g.getD n).toNat - (f.getD 0).toNat) (cap.map (· - (f.getD 0).toNat)) sz) w
   (Instr.sliceAt t v (s.map a.eval) (u.map a.eval) none)):=by
 have h:∀p,n=0->g.getD n<=n->(Instr.sliceAt t (.slice p 0 0) (s.map a.eval) (u.map a.eval) none).run P w=.ok (.slice p 0 0) w:=λp O j=>by
  subst O;have D:=ig (P:=P) (w:=w) (b:=true) (len:=0) (cap:=0) z y J H j (apt _);simp only[Instr.sliceAt,Instr.slice,apA,run_underlying K,apE,D,cE M,ap7]
  grind
 have r:∀b o c,n<=c->g.getD n<=c->(Instr.sliceAt t (.slice (some ⟨b,o,none⟩) n c) (s.map a.eval) (u.map a.eval) none).run P w =
   .ok (.slice (some ⟨b,if c=(f.getD 0).toNat then o else o+(f.getD 0).toNat*sz,none⟩) ((g.getD n).toNat-(f.getD 0).toNat) (c-(f.getD 0).toNat)) w:=λb o c Q j=>by
  have D:=ig (P:=P) (w:=w) (b:=true) (len:=n) (cap:=c) z y J H j Q;simp only[Instr.sliceAt,Instr.slice,apA,run_underlying K,apE,D,cE M,ap7];split<;>simp[Addr.add_mk]
 refine⟨λl cap I j=>?_,λi off cap I j=>?_⟩<;>subst I<;>simp only[VR]at F;obtain⟨p,c,rfl,g1,C,g3⟩:=F;rcases g3 with⟨rfl,rfl,rfl⟩|⟨b,o,rfl,g3⟩;have N:(f.getD 0).toNat=0:=asP;have z2:(g.getD ((0:Nat):Int)).toNat=0:=asP;refine .same B (h p rfl j) ?_;rw[N,z2];refine⟨p,0,rfl,apt _,λk m=>?_,.inl ⟨rfl,rfl,asQ⟩⟩;simp_all;refine .same B (r b o c g1 asP) ?_;refine⟨_,_,rfl,asP,λk m=>?_,.inr ⟨b,_,rfl,?_⟩⟩;cases cap with
 |none=>simp at m
 |some q=>simp at m;rw[C q rfl];exact m
 by_cases T:c=(f.getD 0).toNat;have:(g.getD n).toNat-(f.getD 0).toNat=0:=asP;rw[this];simp[VRC];rw[if_neg T];exact(g3.drop _).take _;obtain⟨c,A,d,S,rfl,g1,C,g3,g4⟩:=F;have G:g.getD n<=A:=by
  cases cap with
  |none=>simp at j;omega
  |some q=>simp at j;rw[g3 q rfl];exact j
 refine .same B (r c.blk d A C G) ?_;refine⟨c,_,_,S,rfl,λR=>?_,asP,λk m=>?_,?_⟩
 grind
 cases cap with
 |none=>simp at m
 |some q=>simp at m;rw[g3 q rfl];exact m
 have U:(f.getD 0).toNat*sz+(A-(f.getD 0).toNat)*sz=A*sz:=by rw[<- aqy];congr 1;omega
 omega
theorem abN{t e:TypeId}{v:Value}{g:Option Operand}{j k:Operand}{d:Option Int}{h m:Int}{C D:IntKind}{sz n:Nat}{l:List AV}{cap:Option Nat}(r:Rel w0 S0 E L w)(u:P.underlying t=some (.slice e))(x:dt P e=some sz)(z:VR E (.sl l n cap) v)(i:Wt a g d)(q:a.eval j=.int C h)(f:a.eval k=.int D m)(B:0<=d.getD 0)(y:d.getD 0<=h)(M:h<=n)(J:h<=m)(h4:m<=n):
  dA P w0 S0 E L (.sl ((l.drop ((d.getD 0).toNat*sz)).take ((h.toNat-(d.getD 0).toNat)*sz)) (h.toNat-(d.getD 0).toNat) (some (m.toNat-(d.getD 0).toNat))) w
   (Instr.sliceAt t v (g.map a.eval) (some (a.eval j)) (some (a.eval k))):=by
 obtain⟨p,c,rfl,g1,I,g3⟩:=z;have s:(Instr.sliceBounds true n c (g.map a.eval) (some (a.eval j)) (some (a.eval k))).run P w=.ok ((d.getD 0).toNat,h.toNat,m.toNat) w:=by simp only[Instr.sliceBounds,q,f,apA,if_true];rw[dq asP asP];simp only[apE,apA];rw[dq asP asP];simp only[apE];rcases i with⟨rfl,rfl⟩|⟨o1,H,K,rfl,rfl,A⟩;simp;simp only[aql]at B y;simp only[apN,A,apA];rw[dq asP asP];simp
 rcases g3 with⟨rfl,rfl,rfl⟩|⟨b,o,rfl,g3⟩;have G:(d.getD 0).toNat=0:=asP;have z2:h.toNat=0:=asP;have z3:m.toNat=0:=asP;refine .same r (v:=.slice p 0 0) ?_ ?_;simp only[Instr.sliceAt,Instr.slice,apA,run_underlying u,apE,s,cE x,ap7];simp[*];simp only[VR];rw[G,z2,z3]
 grind
 refine .same r (v:=.slice (some ⟨b,if m.toNat=(d.getD 0).toNat then o else o+(d.getD 0).toNat*sz,none⟩) (h.toNat-(d.getD 0).toNat) (m.toNat-(d.getD 0).toNat)) ?_ ?_;simp only[Instr.sliceAt,Instr.slice,apA,run_underlying u,apE,s,cE x,ap7];split<;>simp[Addr.add_mk];refine⟨_,_,rfl,asP,asQ,.inr ⟨b,_,rfl,?_⟩⟩;by_cases F:m.toNat=(d.getD 0).toNat;have:h.toNat-(d.getD 0).toNat=0:=asP;rw[this];simp[VRC];rw[if_neg F];exact(g3.drop _).take _
theorem afD{t e:TypeId}{v:Value}{j:Option Operand}{l o:Operand}{b:Option Int}{h m:Int}{B C:IntKind}{sz n i off:Nat}{cap:Option Nat}(s:Rel w0 S0 E L w)(D:P.underlying t=some (.slice e))(H:dt P e=some sz)(r:VR E (.lsl i off n cap sz) v)(k:Wt a j b)(p:a.eval l=.int B h)(f:a.eval o=.int C m)(z:0<=b.getD 0)(u:b.getD 0<=h)(K:h<=m)(h4:m<=((cap.getD n:Nat):Int)):
  dA P w0 S0 E L (.lsl i (off+(b.getD 0).toNat*sz) (h.toNat-(b.getD 0).toNat) (some (m.toNat-(b.getD 0).toNat)) sz) w
   (Instr.sliceAt t v (j.map a.eval) (some (a.eval l)) (some (a.eval o))):=by
 simp only[VR]at r;obtain⟨c,g,d,F,rfl,g1,O,g3,g4⟩:=r;have G:m<=g:=by
  cases cap with
  |none=>simp at h4;omega
  |some q=>simp at h4;rw[g3 q rfl];exact h4
 have x:(Instr.sliceBounds true n g (j.map a.eval) (some (a.eval l)) (some (a.eval o))).run P w=.ok ((b.getD 0).toNat,h.toNat,m.toNat) w:=by simp only[Instr.sliceBounds,p,f,apA,if_true];rw[dq asP asP];simp only[apE,apA];rw[dq asP asP];simp only[apE];rcases k with⟨rfl,rfl⟩|⟨o1,I,N,rfl,rfl,y⟩;simp;simp only[aql]at z u;simp only[apN,y,apA];rw[dq asP asP];simp
 refine .same s (v:=.slice (some ⟨c.blk,if m.toNat=(b.getD 0).toNat then d else d+(b.getD 0).toNat*sz,none⟩) (h.toNat-(b.getD 0).toNat) (m.toNat-(b.getD 0).toNat)) ?_ ?_;simp only[Instr.sliceAt,Instr.slice,apA,run_underlying D,apE,x,cE H,ap7];split<;>simp[Addr.add_mk];simp only[VR];refine⟨c,_,_,F,rfl,λA=>?_,asP,asQ,?_⟩
 grind
 have M:(b.getD 0).toNat*sz+(m.toNat-(b.getD 0).toNat)*sz=m.toNat*sz:=by rw[<- aqy];congr 1;omega
 have J:m.toNat*sz<=g*sz:=aqw _ asP;omega
theorem aed{t e:TypeId}{v:Value}{h j:Option Operand}{d f:Option Int}{sz n:Nat}{x:AV}(k:Rel w0 S0 E L w)(D:P.underlying t=some (.array n e))(I:dt P e=some sz)(m:VR E x v)(q:Wt a h d)(p:Wt a j f)(B:0<=d.getD 0)(y:d.getD 0<=f.getD n)(F:f.getD n<=n):
  (∀ l off,x=.iptr l off->dA P w0 S0 E L (.sl ((l.drop (off+(d.getD 0).toNat * sz)).take (((f.getD n).toNat - (d.getD 0).toNat) * sz)) ((f.getD n).toNat - (d.getD 0).toNat) (some (n - (d.getD 0).toNat))) w
   (Instr.sliceAt t v (h.map a.eval) (j.map a.eval) none)) /\
  (∀ i off l,x=.ptr i off->L[i]?=some (.cells l)->off+n * sz<=l.length->dA P w0 S0 E L (.lsl i (off+(d.getD 0).toNat * sz) ((f.getD n).toNat - (d.getD 0).toNat) (some (n - (d.getD 0).toNat)) sz) w
   (Instr.sliceAt t v (h.map a.eval) (j.map a.eval) none)):=by
 have g:∀b o,(Instr.sliceAt t (.pointer (some ⟨b,o,none⟩)) (h.map a.eval) (j.map a.eval) none).run P w =
   .ok (.slice (some ⟨b,if n=(d.getD 0).toNat then o else o+(d.getD 0).toNat*sz,none⟩) ((f.getD n).toNat-(d.getD 0).toNat) (n-(d.getD 0).toNat)) w:=λb o=>by
  have A:=ig (P:=P) (w:=w) (b:=false) (len:=n) (cap:=n) q p B y F (apt _);simp only[Instr.sliceAt,apA,run_underlying D,apE,Instr.sureAddr,A,cE I,ap7];split<;>simp[Addr.add_mk]
 refine⟨λl off s=>?_,λi off l s z G=>?_⟩<;>subst s<;>simp only[VR]at m;obtain⟨b,o,rfl,g3⟩:=m;refine .same k (g b _) ?_;refine⟨_,_,rfl,asP,asQ,.inr ⟨b,_,rfl,?_⟩⟩;by_cases H:n=(d.getD 0).toNat;have:(f.getD n).toNat-(d.getD 0).toNat=0:=asP;rw[this];simp[VRC];rw[if_neg H,aqx];exact(g3.drop _).take _;obtain⟨c,u,rfl⟩:=m;obtain⟨c',cs,ty,fr,r,M,O,J,Q,K⟩:=k.blk i _ z;rw[u]at r;cases r;refine .same k (g c.blk _) ?_;refine⟨c,_,_,u,rfl,λC=>?_,asP,asQ,?_⟩
 grind
 have N:(d.getD 0).toNat*sz+(n-(d.getD 0).toNat)*sz=n*sz:=by rw[<- aqy];congr 1;omega
 omega
theorem kw(z:Array Value)(n:Nat):(Builtin.zeroCells z n).size=n*z.size:=by simp[Builtin.zeroCells]
theorem Rel.draw(a:Rel w0 S0 E L w)(n:Nat):Rel w0 S0 E L {w with drawn:=n}:=
 ⟨a.mem,λi k b=>bZ.world (λ_ _=>rfl) (λ_ _ _ _=>rfl) (a.blk i k b),a.fresh,a.own,a.inj,a.tkfresh,a.tkown,a.tkloc,a.tkinj,a.frame,a.size,a.os,a.tape,a.output,a.glob,a.gsz⟩
theorem kp{t u e ty:TypeId}{sz n m c:Nat}{base:Option Addr}{x:Value}{cs:List Value}(i:P.underlying t=some (.slice e))(d:(∃f,P.underlying u=some (.slice f))\/P.underlying u=some .string)(j:dt P e=some sz)(g:(Builtin.lenOf x).run P w=.ok n w)(h:(Builtin.firstCells sz n x).run P w=.ok ⟨cs⟩ w)(a:m+n<=c):
  (Builtin.append_ #[t,u] ty #[.slice base m c,x]).run P w=match base with
   |none=>.ok (.slice base (m+n) c) w
   |some b=>((storeCells (b.add (m*sz)) cs).run P w).andThen λ_ w'=>.ok (.slice base (m+n) c) w':=by
 unfold Builtin.append_;rcases d with⟨f,d⟩|d
 all_goals
  simp only[arI,aqm,aqu,apA,run_underlying i,run_underlying d,apE,ap7,cE j,apL,if_false,g,if_pos a,arW,if_true,h];cases base with
  |none=>simp
  |some b=>simp
theorem wi{t u e ty:TypeId}{sz b n m c:Nat}{base:Option Addr}{x z:Value}{cs os:List Value}(D:P.underlying t=some (.slice e))(k:(∃s,P.underlying u=some (.slice s))\/P.underlying u=some .string)(I:dt P e=some sz)(v:aaD P e=some b)(B:∀W,(zeroValue e).run P W=.ok z W)(p:z.cells.size=sz)(A:(Builtin.lenOf x).run P w=.ok n w)(G:(Builtin.firstCells sz n x).run P {w with drawn:=w.drawn+1}=.ok ⟨cs⟩ {w with drawn:=w.drawn+1})(C:(Builtin.firstCells sz m (.slice base m c)).run P {w with drawn:=w.drawn+1}=.ok ⟨os⟩ {w with drawn:=w.drawn+1})(q:c<m+n)(g:(m+n)*b<=140737488355328)(o:m+n<=140737488355328):
  ∃a rest,m+n<=a/\rest.length=(a-(m+n))*sz/\(Builtin.append_ #[t,u] ty #[.slice base m c,x]).run P w =
   .ok (.slice (some ⟨w.heap.size,0,none⟩) (m+n) a) {w with heap:=w.heap.push (.cells ⟨(os++cs)++rest⟩ e),drawn:=w.drawn+1}:=by
 obtain⟨a,d⟩:∃a,a=(Question.appendCap (m+n) c e).cut (w.tape w.drawn (.appendCap (m+n) c e)):=⟨_,rfl⟩;have r:m+n<=a:=by rw[d];simp[Question.cut]
 refine⟨a,(Builtin.zeroCells z.cells (a-(m+n))).toList,r,by simp[kw,p],?_⟩;obtain⟨i,E,l⟩:∃i,P.info? e=some i/\i.bytes=b:=by unfold aaD at v;simpa using v
 have h:∀W,(typeInfo e).run P W=.ok i W:=λW=>by simp[typeInfo,E]
 have y:=growslice_fits (need:=m+n) (old:=c) (bytes:=b) q g;have f:IntKind.i64.max=9223372036854775807:=by decide
 have F:¬(((m+n:Nat):Int)>IntKind.i64.max/\(False\/i.bytes=0)):=by rw[f];omega
 have H:¬(Builtin.nextslicecap (m+n) c*i.bytes>2^48):=by rw[l];omega
 unfold Builtin.append_;rcases k with⟨s,k⟩|k
 all_goals
  simp only[arI,aqm,aqu,apA,run_underlying D,run_underlying k,apE,ap7,cE I,apL,if_false,A,if_neg (show ¬(m+n<=c)by omega),h,arW,if_true];simp only[if_neg F,if_neg H,h,ap7,apE,apA,run_choose,Question.forced,apL,if_false,<- d,run_askRoom,C,G,B,newRow,run_newObj];have j:((⟨os⟩:Array Value)++(⟨cs⟩:Array Value)++Builtin.zeroCells z.cells (a-(m+n)))=⟨(os++cs)++(Builtin.zeroCells z.cells (a-(m+n))).toList⟩:=by simp
  rw[j]
theorem aj6{own:Nat}{t u e ty:TypeId}{sz bo:Nat}{z:List AV}{x y av:AV}{p v:Value}{c:Prop}{L':List Blk}(D:Rel w0 S0 E L w)(ht:P.underlying t=some (.slice e))(hu:(∃e',P.underlying u=some (.slice e'))\/P.underlying u=some .string)(hs:dt P e=some sz)(hb:aaD P e=some bo)(hz:zOf P e=some z)(ck:z.length=sz)(hx:VR E x p)(hy:VR E y v)(h:app own sz bo L x y=some (c,av,L'))(hc:c):
  dA P w0 S0 E L' av w (Builtin.append_ #[t,u] ty #[p,v]):=by
 have G:Rel w0 S0 E L {w with drawn:=w.drawn+1}:=D.draw _;obtain⟨zv,a6,ci,_⟩:=Tn (E:=E) hz;have a9:zv.cells.size=sz:=by have:=ci.length;simpa[ck]using this
 unfold app at h;split at h;cases h;rename_i c1 g n J;have fresh:∀(r:List AV) (os cs:List Value) (m B:Nat) (rest:List Value),VRL E r os->VRL E g cs->r.length=m*sz->g.length=n*sz->m+n<=B->rest.length=(B-(m+n))*sz->∀(L0:List Blk),Rel w0 S0 E L0 {w with drawn:=w.drawn+1} ->
   (∃E',E.le E'/\VR E' (.lsl L0.length 0 (m+n) none sz) (.slice (some ⟨w.heap.size,0,none⟩) (m+n) B)/\Rel w0 S0 E' (L0++[.cells (r++g)]) {w with heap:=w.heap.push (.cells ⟨(os++cs)++rest⟩ e),drawn:=w.drawn+1}):=by
  intro r os cs m B rest ho hn ct cw b0 hr L0 cf;have bl:=ho.append hn
  .obtain⟨E',N,X,r3⟩:=td cf bl rest e (0,0) asQ;refine⟨E',N,?_,r3⟩;simp only[VR];refine⟨_,B,0,X,rfl,asQ,b0,asQ,?_⟩;have S:=ho.length;have O:=hn.length;have:(m+n)*sz+(B-(m+n))*sz=B*sz:=by rw[<- aqy];congr 1;omega
   grind
 have grown:∀(r:List AV) (os cs:List Value) (m B:Nat) (rest:List Value),VRL E r os->VRL E g cs->r.length=m*sz->g.length=n*sz->m+n<=B->rest.length=(B-(m+n))*sz ->
   ∃E',E.le E'/\Rel w0 S0 E' L {w with heap:=w.heap.push (.cells ⟨(os++cs)++rest⟩ e),drawn:=w.drawn+1}/\VRC E' (r++AV.frzL g) w.heap.size 0/\E'.tok=E.tok /\
    ∀i,(L++[Blk.dead])[i]?≠none->aih w0 S0 E' L {w with heap:=w.heap.push (.cells ⟨(os++cs)++rest⟩ e),drawn:=w.drawn+1} i (m+n) sz (some ⟨w.heap.size,0,B*sz⟩):=by
  intro r os cs m B rest ho hn ct cw b0 hr;have cc:=VRL.frz _ _ hn;have bl:=ho.append cc;obtain⟨E',N,X,r3,r4,r5,r6⟩:=G.imm' (os++cs) e (r++AV.frzL g) bl rest (0,0);have S:=ho.length;have O:=hn.length;have h4:(m+n)*sz+(B-(m+n))*sz=B*sz:=(by rw[<- aqy];congr 1;omega);have T:(m+n)*sz=m*sz+n*sz:=aqy _ _ _;refine⟨E',N,X,r3,r5,λi _ k H=>?_⟩;cases H;refine⟨⟨_,e,(0,0),by simp;rfl,?_,asQ⟩,λo c3=>r6 o (by simp only[apB];omega),.inr D.size,λj k' c C hl cB=>?_,λj n' c0 t' k' _ C cd bn=>?_⟩
  .simp only[List.size_toArray,apB];omega
  .have:=D.loc_lt C hl (by rw[<- r4];exact cB);simp only;omega
  .have:=D.tok_lt C (by rw[<- r5];exact cd) bn;simp only;omega
 have keep:∀{i:Nat}{k:Blk},L[i]?=some k->(L++[Blk.dead])[i]?≠none:=λ{i k} hi=>by have:=(aps.1 hi).1;simp;omega
 have ar:(AV.frzL g).length=g.length:=AV.frzL_length _;split at h;rename_i l m k;have F:=hx;simp only[VR]at F;obtain⟨Y,c',rfl,g1,g2,g3⟩:=F;have:=g2 k rfl;subst this;by_cases ai:own=2;subst ai;simp only[reduceIte,Nat.reduceEqDiff]at h;split at h;rename_i I;subst I;simp only[apu,apI]at h;obtain⟨rfl,rfl,rfl⟩:=h;obtain⟨S,O,cs,T,h4⟩:=bW (P:=P) D hy J hc.1;have:cs=[]:=by have:=T.length;simp at O;simpa[O]using this
 subst this;refine .same D (v:=.slice Y m c') ?_ hx;rw[kp (ty:=ty) ht hu hs S h4 asP];cases Y<;>simp[storeCells];rename_i I;simp only[apu,apI,aaK]at h;obtain⟨rfl,rfl,rfl⟩:=h;obtain⟨k1,k2,Z,k4,k5⟩:=hc;subst k2;obtain⟨S,O,_,_,_⟩:=bW (P:=P) D hy J k1;obtain⟨_,_,cs,T,h4⟩:=bW (P:=P) G hy J k1;obtain⟨_,_,os,q3,q4⟩:=bW (P:=P) (sz:=sz) (c:=l.length=m*sz) (l:=l) (n:=m) G hx rfl Z;obtain⟨B,rest,j1,j2,j3⟩:=wi (P:=P) (w:=w) (ty:=ty) (m:=m) (c:=m) (base:=Y) (os:=os) ht hu hs hb a6 a9 S h4 q4 asP k4 k5;obtain⟨E1,a1,a2,a3⟩:=fresh l os cs m B rest q3 T Z O j1 j2 L G;exact⟨E1,_,_,j3,a1,a2,a3⟩;simp only[if_neg ai]at h;have ce:c1/\m=c'/\l.length=m*sz/\(m+n)*bo<=140737488355328/\m+n<=140737488355328:=by split at h<;>simp only[apu,apI]at h<;>obtain⟨rfl,_⟩:=h<;>exact hc
 obtain⟨k1,k2,Z,k4,k5⟩:=ce;subst k2;obtain⟨S,O,M,ad,a8⟩:=bW (P:=P) D hy J k1;have ap:(m+n)*sz=m*sz+n*sz:=aqy _ _ _;rcases aqQ n with I|I;subst I;have R:g=[]:=by simpa using O
 subst R;have:M=[]:=by have:=ad.length;simpa using this
 subst this;have q:(Builtin.append_ #[t,u] ty #[.slice Y m m,v]).run P w=.ok (.slice Y m m) w:=by rw[kp (ty:=ty) ht hu hs S a8 asP];cases Y<;>simp[storeCells]
 split at h<;>simp only[apu,apI]at h<;>obtain⟨rfl,rfl,rfl⟩:=h;obtain⟨N,X⟩:=D.addtok (n:=m+0) (sz:=sz) (lc:=none) Xn;refine⟨_,_,_,q,N,?_,X⟩;simp only[VR,AV.frzL,ap4,aqz];refine⟨Y,m,rfl,apt _,Z,g3.imp id λ⟨b,o,q1,q2⟩=>⟨b,o,q1,VRC.mono N _ _ _ q2⟩,⟨m+0,sz,none⟩,asQ,asQ,λ_=>⟨rfl,λ_=>rfl,asQ⟩⟩;refine .same D q ?_;simp only[VR,AV.frzL,ap4,aqz];exact⟨Y,m,rfl,apt _,asQ,g3⟩;obtain⟨_,_,cs,T,h4⟩:=bW (P:=P) G hy J k1;obtain⟨_,_,os,q3,q4⟩:=bW (P:=P) (sz:=sz) (c:=l.length=m*sz) (l:=l) (n:=m) G hx rfl Z;obtain⟨B,rest,j1,j2,j3⟩:=wi (P:=P) (w:=w) (ty:=ty) (m:=m) (c:=m) (base:=Y) (os:=os) ht hu hs hb a6 a9 S h4 q4 asP k4 k5;obtain⟨E2,b1,b2,b3,b5,b4⟩:=grown l os cs m B rest q3 T Z O j1 j2;split at h<;>simp only[apu,apI]at h<;>obtain⟨rfl,rfl,rfl⟩:=h;obtain⟨N,X⟩:=b2.addtok (n:=m+n) (sz:=sz) (b4 L.length asQ);refine⟨_,_,_,j3,b1.trans N,?_,X⟩;simp only[VR];exact⟨_,B,rfl,j1,by simp only[apB,ar];omega,.inr ⟨_,0,rfl,VRC.mono N _ _ _ b3⟩,⟨m+n,sz,some ⟨w.heap.size,0,B*sz⟩⟩,asQ,asQ,λ_=>⟨rfl,asQ,λk H=>by cases H;exact⟨rfl,apt _⟩⟩⟩;refine⟨E2,_,_,j3,b1,?_,b2⟩;simp only[VR];exact⟨_,B,rfl,j1,asQ,.inr ⟨_,0,rfl,b3⟩⟩;rename_i l m i s;split at h;rename_i Q s' V;simp only[apu,apI]at h;obtain⟨rfl,rfl,rfl⟩:=h;obtain⟨k1,U,rfl,rfl,rfl,k4,k5⟩:=hc;obtain⟨cv,Z⟩:=hx.gsl_sl;have F:=hx;simp only[VR]at F;obtain⟨Y,K,rfl,g1,_,g3,tk,g4,g5,g6⟩:=F;obtain⟨c2,e1,e2,e3,e4⟩:=D.blk i _ V;rw[g4]at e1;cases e1;obtain⟨g7,g8,g9⟩:=g6 e2.symm;obtain⟨S,O,M,ad,a8⟩:=bW (P:=P) D hy J k1;have ap:(Q+n)*s'=Q*s'+n*s':=aqy _ _ _;rcases aqQ n with I|I;subst I;have R:g=[]:=by simpa using O
 subst R;have:M=[]:=by have:=ad.length;simpa using this
 subst this;have q:(Builtin.append_ #[t,u] ty #[.slice Y Q K,v]).run P w=.ok (.slice Y Q K) w:=by rw[kp (ty:=ty) ht hu hs S a8 asP];cases Y<;>simp[storeCells]
 refine .same ?_ q ?_;have:L.set i (.spare (Q+0) s')=L:=by apply arr;intro j;rw[ap3];split;rename_i e;subst e;rw[V];have:=(aps.1 V).1;simp[this];rfl
 rw[this];exact D;simpa[AV.frzL]using hx;by_cases A:Q+n<=K;have bx:∃k,tk.loc=some k:=by rcases hq:tk.loc with _|k;have:=g8 hq;omega;exact⟨k,rfl⟩
 obtain⟨k,H⟩:=bx;obtain⟨rfl,ca⟩:=g9 k H;obtain⟨ch,cb,cm,b1,b2,b3⟩:=e4 k H;have a0:=ad.length;have cp:(Q+n)*s'<=K*s':=aqw _ A;obtain⟨w',W,N,X,r3,r4,r5,r6,r7,r8,r9⟩:=jv (P:=P) (b:=k.blk) (ty:=cb) (fr:=cm) M w ch (0+Q*s') 0 b1 (λv hv=>by obtain⟨j,C⟩:=arf.1 hv;have an:j<g.length:=(by have:=(aps.1 C).1;omega);obtain⟨y,h7,h8⟩:=ad.get (apD an);rw[C]at h7;cases h7;exact h8.one (apF.1 U _ (aqr an))) asP (λo h7 h8=>b3 o asP asP)
 have q:(Builtin.append_ #[t,u] ty #[.slice (some ⟨k.blk,0,none⟩) Q K,v]).run P w=.ok (.slice (some ⟨k.blk,0,none⟩) (Q+n) K) w':=by rw[kp (ty:=ty) ht hu hs S a8 A];simp only[Addr.add_mk,N,apE]
 obtain⟨E',q1,q2,q3,q4⟩:=D.tokwrite (w':=w') V g4 H (n:=Q+n) asP b1 X r3 r4 r5 r6 r7 r8 (λo ho=>by rw[r9,if_neg asP]);refine⟨E',_,_,q,q1,?_,q2⟩;simp only[VR];refine⟨_,K,rfl,A,by simp only[apB,ar];omega,.inr ⟨k.blk,0,rfl,VRC.of_get λj a ha=>?_⟩,_,q3,apt _,λ_=>⟨rfl,asQ,λk' bn=>by cases bn;exact⟨rfl,ca⟩⟩⟩;rw[aqO]at ha;split at ha;rename_i C;rcases g3 with⟨_,_,e⟩|⟨b,o,e,g3⟩;subst e;simp at C;cases e;obtain⟨y,f1,f2⟩:=(VRC.mono q1 _ _ _ g3).get ha;exact⟨y,f1,f2⟩;rename_i C;obtain⟨y,f1,f2⟩:=(VRL.frz _ _ ad).get ha;have cr:=(aps.1 ha).1;refine⟨y,?_,VR.mono q1 _ _ f2⟩;rw[q4 _ asP asP,r9,if_pos asP,<- f1];congr 1;omega;obtain⟨_,_,cs,T,h4⟩:=bW (P:=P) G hy J k1;obtain⟨_,_,os,q3,q4⟩:=bW (P:=P) (sz:=s') (c:=l.length=Q*s') (l:=l) (n:=Q) G cv rfl Z;obtain⟨B,rest,j1,j2,j3⟩:=wi (P:=P) (w:=w) (ty:=ty) (m:=Q) (c:=K) (base:=Y) (os:=os) ht hu hs hb a6 a9 S h4 q4 asP k4 k5;obtain⟨E2,b1,b2,b3,b5,b4⟩:=grown l os cs Q B rest q3 T Z O j1 j2;obtain⟨N,X⟩:=b2.settok (n:=Q+n) (sz:=s') ⟨_,_,V⟩ (λt2 a7=>by rw[b5,g4]at a7;cases a7;omega) (b4 i (keep V))
 refine⟨_,_,_,j3,b1.trans N,?_,X⟩;simp only[VR];exact⟨_,B,rfl,j1,by simp only[apB,ar];omega,.inr ⟨_,0,rfl,VRC.mono N _ _ _ b3⟩,⟨Q+n,s',some ⟨w.heap.size,0,B*s'⟩⟩,asQ,asQ,λ_=>⟨rfl,asQ,λk H=>by cases H;exact⟨rfl,apt _⟩⟩⟩;cases h;rename_i i off m cap s;split at h;rename_i l V;split at h;rename_i cy;subst cy;by_cases a5:own=4;rw[if_pos a5]at h;rcases cap with _|co;cases h;simp only[apu,apI]at h;obtain⟨rfl,rfl,rfl⟩:=h;obtain⟨k1,U,k2,Z⟩:=hc;have F:=hx;simp only[VR]at F;obtain⟨f,K,d,g0,rfl,g1,g2,g3,g4⟩:=F;have b':=g3 co rfl;subst b';obtain⟨S,O,cs,T,h4⟩:=bW (P:=P) D hy J k1;have ap:(m+n)*s=m*s+n*s:=aqy _ _ _;have a0:=T.length;obtain⟨w',N,X⟩:∃w',(storeCells ((⟨f.blk,d,none⟩:Addr).add (m*s)) cs).run P w=.ok () w'/\Rel w0 S0 E (L.set i (.cells (d7 l (off+m*s) g))) w':=by
  by_cases bk:K=0;have I:n=0:=asP;subst I;have R:g=[]:=aqc.1 (by rw[O];simp);subst R;have a4:cs=[]:=(by simpa using a0);subst a4;refine⟨w,by simp[storeCells],?_⟩;have e1:d7 l (off+m*s) []=l:=(by simp[d7]);rw[e1];have e2:L.set i (.cells l)=L:=by apply arr;intro j;rw[ap3];split;rename_i e;subst e;rw[V];have:=(aps.1 V).1;simp[this];rfl
  rw[e2];exact D;have hd:=g1 bk;subst hd;rw[Addr.add_mk,aqx];exact TA (P:=P) (off:=off+m*s) D V g0 T (λx hx=>apF.1 U x hx) (by rw[O];omega)
 have q:(Builtin.append_ #[t,u] ty #[.slice (some ⟨f.blk,d,none⟩) m K,v]).run P w=.ok (.slice (some ⟨f.blk,d,none⟩) (m+n) K) w':=by rw[kp (ty:=ty) ht hu hs S h4 Z];simp only[N,apE]
 refine⟨E,_,w',q,.refl E,?_,X⟩;simp only[VR];exact⟨f,K,d,g0,rfl,g1,Z,g3,g4⟩;rw[if_neg a5]at h;simp only[apu,apI,aaK]at h;obtain⟨rfl,rfl,rfl⟩:=h;obtain⟨k1,U,k2,Z,k4⟩:=hc;have F:=hx;simp only[VR]at F;obtain⟨f,K,d,g0,rfl,g1,g2,g3,g4⟩:=F;obtain⟨S,O,cs,T,h4⟩:=bW (P:=P) D hy J k1;by_cases A:m+n<=K;have bb:((l.drop off).take (m*s)).length=m*s:=by simp;omega
 obtain⟨c4,M,bs,fr,b1,b2,b3,b4,b5,b6⟩:=D.blk i _ V;rw[g0]at b1;cases b1;have a_:=D.own i _ f V rfl g0;have a0:=T.length;have ap:(m+n)*s=m*s+n*s:=aqy _ _ _;have cp:(m+n)*s<=K*s:=aqw _ A;have hd:(some (⟨f.blk,d,none⟩:Addr)).map (·.add (m*s))=some ⟨f.blk,d+m*s,none⟩:=by simp[Addr.add_mk]
 obtain⟨w',W,N,X,r3,r4,r5,r6,r7,r8,r9⟩:∃w' W,(storeCells ((⟨f.blk,d,none⟩:Addr).add (m*s)) cs).run P w=.ok () w'/\w'.heap.size=w.heap.size/\(∀k,k≠f.blk->w'.heap[k]?=w.heap[k]?)/\w'.os=w.os/\w'.tape=w.tape/\w'.output=w.output /\
   w'.heap[f.blk]?=some (.cells W bs fr)/\W.size=M.size/\∀k,W[k]?=if f.off+off+m*s<=k/\k<f.off+off+m*s+cs.length then cs[k-(f.off+off+m*s)]? else M[k]?:=by
  by_cases bk:K=0
  .have a4:cs=[]:=by
    have h0 : n * s = 0 := by have : n = 0 := by omega
                              rw[this];simp
    rw[O,h0]at a0;simpa using a0
   subst a4;exact⟨w,M,by simp[storeCells],rfl,λ_ _=>rfl,rfl,rfl,rfl,b2,rfl,λk=>by rw[if_neg asQ]⟩
  .have hd:=g1 bk;subst hd;rw[Addr.add_mk];have:=jv (P:=P) (b:=f.blk) (ty:=bs) (fr:=fr) cs w M (f.off+off+m*s) 0 b2 (λv hv=>by obtain⟨j,C⟩:=arf.1 hv;have an:j<g.length:=(by have:=(aps.1 C).1;omega);obtain⟨y,h7,h8⟩:=T.get (apD an);rw[C]at h7;cases h7;exact h8.one (apF.1 U _ (aqr an))) asP (λk h7 h8=>b6 k asP asP)
   simpa using this
 have q:(Builtin.append_ #[t,u] ty #[.slice (some ⟨f.blk,d,none⟩) m K,v]).run P w=.ok (.slice (some ⟨f.blk,d,none⟩) (m+n) K) w':=by rw[kp (ty:=ty) ht hu hs S h4 A];simp only[N,apE]
 have H:=D.turn (w':=w') (k':=.dead) V rfl g0 X r3 r4 r5 r6 (by simp[bZ]) asQ;have b_:=H.add (.cells ((l.drop off).take (m*s)++g)) ⟨f.blk,f.off+off,f.size⟩ a_.1 a_.2 (λj k' d' C bt cu=>by
  rw[ap3]at C;split at C;split at C;cases C;simp[Blk.live]at bt;cases C;rename_i bi;intro e;exact bi (D.inj _ _ _ _ _ _ V rfl C bt g0 cu e.symm)) rfl (λj n2 s2 t2 d C a7 cx=>D.tkloc j n2 s2 t2 d i _ f (gp asQ C) a7 cx V rfl g0) (by
  refine⟨⟨f.blk,f.off+off,f.size⟩,W,bs,fr,asQ,r7,by simpa using r8.trans b3,by simp only[apB,bb];omega,λj a' ha=>?_,λo h5 h6=>b6 o (by simp at h5;omega) h6⟩;have al:∀x y,VR E x y->VR {E with loc:=λi'=>if i'=(L.set i .dead).length then some ⟨f.blk,f.off+off,f.size⟩else E.loc i'} x y:=λx y cn=>VR.mono (Env.le_loc _ (H.fresh _ (apt _))) _ _ cn
  show ∃v,W[f.off+off+j]?=some v/\_;rw[r9];rw[aqO]at ha;rw[bb]at ha;by_cases C:j<m*s;rw[if_pos C,aqs C,aqo]at ha;rw[if_neg asP];obtain⟨x,e1,e2⟩:=b5 _ _ ha;exact⟨x,by rw[<- e1];congr 1;omega,al _ _ e2⟩;rw[if_neg C]at ha;have cr:=(aps.1 ha).1;rw[if_pos asP];obtain⟨x,e1,e2⟩:=T.get ha;exact⟨x,by rw[<- e1];congr 1;omega,al _ _ e2⟩)
 refine⟨_,_,w',q,b_.1,?_,by simpa using b_.2⟩;simp only[VR];refine⟨⟨f.blk,f.off+off,f.size⟩,K,d,asQ,rfl,λbi=>by simpa using g1 bi,A,asQ,?_⟩;simpa using g4;obtain⟨_,_,cs,T,h4⟩:=bW (P:=P) G hy J k1;obtain⟨_,q2,os,q3,q4⟩:=bW (P:=P) (sz:=s) (c:=off+m*s<=l.length) (l:=(l.drop off).take (m*s)) (n:=m) G hx (by simp only[elems,V]) k2;obtain⟨B,rest,j1,j2,j3⟩:=wi (P:=P) (w:=w) (ty:=ty) (m:=m) (c:=K) (base:=some ⟨f.blk,d,none⟩) (os:=os) ht hu hs hb a6 a9 S h4 q4 asP Z k4;have H:Rel w0 S0 E (L.set i .dead) {w with drawn:=w.drawn+1}:=G.kill asQ λj k H=>by rw[ap3]at H;split at H;split at H;cases H;exact .inl rfl;cases H;exact .inr H
 obtain⟨E1,a1,a2,a3⟩:=fresh _ os cs m B rest q3 T q2 O j1 j2 (L.set i .dead) H;exact⟨E1,_,_,j3,a1,by simpa using a2,a3⟩;cases h;cases h;cases h
theorem ahX{t u e ty:TypeId}{sz f i off m cp:Nat}{z l:List AV}{p v:Value}{j q:IntKind}{k:Int}(V:Rel w0 S0 E L w)(ht:P.underlying t=some (.slice e))(hu:P.underlying u=some (.int j))(hs:dt P e=some sz)(M:aaD P e=some f)(hz:zOf P e=some z)(I:z.length=sz)(K:VR E (.lsl i off m (some cp) sz) p)(N:VR E (.int q k) v)(X:L[i]?=some (.cells l))(hc:0<=k/\k<=1099511627776/\cp<m+k.toNat/\off+m*sz<=l.length/\(m+k.toNat)*f<=140737488355328/\m+k.toNat<=140737488355328):
  dA P w0 S0 E (L++[.cells ((l.drop off).take (m*sz)++gq z k.toNat)]) (.lsl L.length 0 (m+k.toNat) none sz) w (Builtin.append_ #[t,u] ty #[p,v]):=by
 obtain⟨c1,c2,c3,c4,c5,c6⟩:=hc;have A:Rel w0 S0 E L {w with drawn:=w.drawn+1}:=V.draw _;obtain⟨b,J,B,_⟩:=Tn (E:=E) hz;have h:b.cells.size=sz:=by have:=B.length;simpa[I]using this
 simp only[VR]at N;subst N;have x:=K;simp only[VR]at x;obtain⟨Z,r,d,g0,rfl,g1,g2,g3,g4⟩:=x;have:=g3 cp rfl;subst this;obtain⟨_,q2,os,O,q4⟩:=bW (P:=P) (sz:=sz) (c:=off+m*sz<=l.length) (l:=(l.drop off).take (m*sz)) (n:=m) A K (by simp only[elems,X]) c4;obtain⟨n,U⟩:∃n,n=k.toNat:=⟨_,rfl⟩;rw[<- U]at c3 c5 c6⊢;obtain⟨a,C⟩:∃a,a=(Question.appendCap (m+n) r e).cut (w.tape w.drawn (.appendCap (m+n) r e)):=⟨_,rfl⟩;have H:m+n<=a:=by rw[C];simp[Question.cut]
 obtain⟨g,Y,G⟩:∃i,P.info? e=some i/\i.bytes=f:=by unfold aaD at M;simpa using M
 have F:∀W,(typeInfo e).run P W=.ok g W:=λW=>by simp[typeInfo,Y]
 have S:=growslice_fits (need:=m+n) (old:=r) (bytes:=f) c3 c5;have s:IntKind.i64.max=9223372036854775807:=by decide
 have hw:IntKind.i64.wrap k=k:=by simp only[IntKind.wrap,IntKind.bits,IntKind.signed];simp;omega
 have ad:(n:Int)=k:=asP;have T:k*(g.bytes:Int)<=2^48:=by grind
 have n0:¬k<0:=asP;have n3:¬k*(g.bytes:Int)>2^48:=asP;have n1:¬(((m+n:Nat):Int)>IntKind.i64.max/\True):=by rw[s];omega
 have n2:¬(Builtin.nextslicecap (m+n) r*g.bytes>2^48):=by rw[G];omega
 have o:∀W,(if n*sz=0 then(pure #[]:Sem (Array Value))else do pure (Builtin.zeroCells (<- zeroValue e).cells n)).run P W=.ok (Builtin.zeroCells b.cells n) W:=λW=>by
  by_cases R:n*sz=0;rw[if_pos R];have:Builtin.zeroCells b.cells n=#[]:=by apply Array.eq_empty_of_size_eq_zero;rw[kw,h,R]
  simp_all;simp_all
 have y:(Builtin.append_ #[t,u] ty #[.slice (some ⟨Z.blk,d,none⟩) m r,.int q k]).run P w =
   .ok (.slice (some ⟨w.heap.size,0,none⟩) (m+n) a) {w with heap:=w.heap.push (.cells ⟨(os++(Builtin.zeroCells b.cells n).toList)++(Builtin.zeroCells b.cells (a-(m+n))).toList⟩ e),drawn:=w.drawn+1}:=by
  unfold Builtin.append_;simp only[arI,aqm,aqu,apA,run_underlying ht,run_underlying hu,apE,ap7,cE hs,if_true,asInt,asIntOf,hw,if_neg n0,F,if_neg n3,<- U];simp only[if_neg (show ¬(m+n<=r)by omega),arg,apL,if_false,true_or];simp only[if_neg n1,ap7,apA,F,apE,if_neg n2,run_choose,Question.forced,apL,if_false,<- C,run_askRoom,q4,o,J,newRow,run_newObj];have Q:((⟨os⟩:Array Value)++Builtin.zeroCells b.cells n++Builtin.zeroCells b.cells (a-(m+n)))=⟨(os++(Builtin.zeroCells b.cells n).toList)++(Builtin.zeroCells b.cells (a-(m+n))).toList⟩:=by simp
  grind
 have D:VRL E (gq z n) (Builtin.zeroCells b.cells n).toList:=by have:=TI B n;simpa[Builtin.zeroCells]using this
 obtain⟨E',r1,r2,r3⟩:=td A (O.append D) (Builtin.zeroCells b.cells (a-(m+n))).toList e (0,0) asQ;refine⟨E',_,_,y,r1,?_,r3⟩;simp only[VR];refine⟨_,a,0,r2,rfl,asQ,H,asQ,?_⟩;have h1:=O.length;have h2:((Builtin.zeroCells b.cells n).toList).length=n*sz:=by simp[kw,h]
 have h5:((Builtin.zeroCells b.cells (a-(m+n))).toList).length=(a-(m+n))*sz:=by simp[kw,h]
 have:(m+n)*sz+(a-(m+n))*sz=a*sz:=by rw[<- aqy];congr 1;omega
 have h3:(m+n)*sz=m*sz+n*sz:=aqy _ _ _;simp only[apB,h2,h5];omega
end
section
variable {P:Program}{w0:World}{S0:SB}{E:Env}{L:List Blk}{w:World}{T:Tm}{a:Act}
def fj(P:Program)(w0:World)(S0:SB)(E:Env)(L':List Blk)(av:AV)(w:World)(s:Sem Next):Prop :=
 ∃E' v w',(s.run P w=.ok (.value v) w'\/(s.run P w=.ok .skip w'/\v=undef))/\E.le E'/\VR E' av v/\Rel w0 S0 E' L' w'
theorem dA.done{L':List Blk}{av:AV}{s:Sem Value}(h:dA P w0 S0 E L' av w s):fj P w0 S0 E L' av w (do pure (.value (<- s))):=by obtain⟨E',v,w',b,a⟩:=h;exact⟨E',v,w',.inl (by simp[b]),a⟩
theorem tu:∀{xs:List Operand}{c:List Opd}{l:List AV},oY xs=some c->je T c=some l->TR E T a->VRL E l (xs.map a.eval)
 |[],c,l,h,hv,_=>by simp[oY]at h;subst h;simp[je]at hv;subst hv;rfl
 | x::xs,c,l,h,hv,hT=>by
   simp only[oY,ase]at h;rcases h1:bV x with _|y
   .simp_all
   .rcases h2:xs.mapM bV with _|e
    .simp_all
    .simp[h1,h2]at h;subst h;simp only[je]at hv;split at hv<;>simp at hv;rename_i b m d h4;subst hv;exact⟨_,_,rfl,ao h1 d hT,tu (by simpa[oY]using h2) h4 hT⟩
theorem Yh{sz:Nat}{x:AV}{v:Value}{c:Prop}{l:List AV}{n:Nat}(k:Nat)(C:k<=n)(B:Rel w0 S0 E L w)(g:VR E x v)(h:elems L sz x=some (c,l,n))(N:c):
  ∃cs,VRL E (l.take (k*sz)) cs/\cs.length=k*sz/\(Builtin.firstCells sz k v).run P w=.ok ⟨cs⟩ w:=by
 have Q:k*sz<=n*sz:=aqw _ C;unfold elems at h;split at h;simp only[apu,apI]at h;obtain⟨rfl,rfl,rfl⟩:=h;simp only[VR]at g;subst g;have:k=0:=asP;subst this;exact⟨[],by simp[VRL],asQ,by simp[Builtin.firstCells]⟩;rename_i l m cap;simp only[apu,apI]at h;obtain⟨rfl,rfl,rfl⟩:=h;exact(TD (P:=P) B g N C).2;rename_i l m i s;simp only[apu,apI]at h;obtain⟨rfl,rfl,rfl⟩:=h;subst N;exact(TD (P:=P) B g.gsl_sl.1 g.gsl_sl.2 C).2;rename_i i off m cap s;split at h;rename_i y F;simp only[apu,apI]at h;obtain⟨rfl,rfl,rfl⟩:=h;simp only[VR]at g;obtain⟨q,O,d,r,rfl,M,S,h4,T⟩:=g;obtain⟨k',I,ty,fr,g1,D,g3,g4,H,R⟩:=B.blk i _ F;rw[r]at g1;cases g1;have e:(((y.drop off).take (m*sz)).take (k*sz)).length=k*sz:=by simp;omega
 rcases aqQ k with t|t;subst t;exact⟨[],by simp[VRL],asQ,by simp[Builtin.firstCells,loadCells,loadCellsFrom]⟩;have K:=M asP;subst K;obtain⟨cs,p,z⟩:=jd (P:=P) (w:=w) (b:=q.blk) (o:=q.off+off) (l:=((y.drop off).take (m*sz)).take (k*sz)) λj a f=>by have u:j<k*sz:=(by have:=(aps.1 f).1;omega);rw[aqs u,aqs asP,aqo]at f;obtain⟨x,A,G⟩:=H _ _ f;refine⟨x,?_,G⟩;rw[<- aqx]at A;simp[World.cell?,D,A]
 exact⟨cs,p,by rw[p.length,e],by rw[e]at z;simpa[Builtin.firstCells]using z⟩;rename_i y F;simp only[apu,apI]at h;obtain⟨rfl,rfl,rfl⟩:=h;simp only[VR]at g;obtain⟨q,O,d,r,rfl,M,S,h4,T⟩:=g;obtain⟨k',I,ty,fr,g1,D,g3,g4,H,R⟩:=B.blk i _ F;rw[r]at g1;cases g1;have e:(((y.drop off).take (m*sz)).take (k*sz)).length=k*sz:=by simp;omega
 rcases aqQ k with t|t;subst t;exact⟨[],by simp[VRL],asQ,by simp[Builtin.firstCells,loadCells,loadCellsFrom]⟩;have K:=M asP;subst K;obtain⟨cs,p,z⟩:=jd (P:=P) (w:=w) (b:=q.blk) (o:=q.off+off) (l:=((y.drop off).take (m*sz)).take (k*sz)) λj a f=>by have u:j<k*sz:=(by have:=(aps.1 f).1;omega);rw[aqs u,aqs asP,aqo]at f;obtain⟨x,A,G⟩:=H _ _ f;refine⟨x,?_,G⟩;rw[<- aqx]at A;simp[World.cell?,D,A]
 exact⟨cs,p,by rw[p.length,e],by rw[e]at z;simpa[Builtin.firstCells]using z⟩;cases h;split at h;rename_i s J;simp only[apu,apI]at h;obtain⟨rfl,rfl,rfl⟩:=h;simp only[VR]at g;subst g;subst J;refine⟨(s.map λb=>Value.int .u8 b.toNat).take k,?_,by simp;omega,?_⟩;refine VRL.of_get (by simp[u8s]) λi a f=>?_
 have u:i<k:=by have:=(aps.1 f).1;simp at this;omega
 simp only[Nat.mul_one]at f;rw[aqs u]at f⊢;simp only[u8s,aqk,ap6]at f⊢;obtain⟨b,r,rfl⟩:=f;exact⟨_,⟨b,r,rfl⟩,rfl⟩;simp only[Builtin.firstCells,ap7];simp;cases h;cases h
theorem abO{t u e ty:TypeId}{sz n:Nat}{x y:AV}{p v:Value}{c:Prop}{a:List AV}(h:Rel w0 S0 E L w)(I:P.underlying t=some (.slice e))(H:dt P e=some sz)(j:VR E x p)(A:VR E y v)(f:elems L sz y=some (c,a,n))(B:c):
  (x=.nilsl->dA P w0 S0 E L (.int .i64 0) w (Builtin.copy_ #[t,u] ty #[p,v])) /\
  (∀ i off m cap l,x=.lsl i off m cap sz->L[i]?=some (.cells l)->off+m * sz<=l.length->(a.take (min n m * sz)).all AV.one=true ->
   dA P w0 S0 E (L.set i (.cells (d7 l off (a.take (min n m*sz))))) (.int .i64 (min n m:Nat)) w (Builtin.copy_ #[t,u] ty #[p,v])):=by
 obtain⟨D,X,_,_,_⟩:=bW (P:=P) h A f B;refine⟨λG=>?_,λi off m cap l G N T o=>?_⟩<;>subst G<;>simp only[VR]at j;subst j;obtain⟨g,_,_,V⟩:=Yh (P:=P) 0 (apv _) h A f B;refine .same h (v:=.int .i64 0) ?_ (by simp[VR]);simp[Builtin.copy_,run_underlying I,D,cE H,V,goInt];obtain⟨K,F,d,U,rfl,g1,W,g3,g4⟩:=j;obtain⟨g,r,q,M⟩:=Yh (P:=P) (min n m) (Nat.min_le_left _ _) h A f B;have J:min n m*sz<=m*sz:=aqw _ (Nat.min_le_right _ _);have z:min n m*sz<=n*sz:=aqw _ (Nat.min_le_left _ _);have k:(a.take (min n m*sz)).length=min n m*sz:=by simp;omega
 have b:(Builtin.copy_ #[t,u] ty #[.slice (some ⟨K.blk,d,none⟩) m F,v]).run P w=((storeCells ⟨K.blk,d,none⟩ g).run P w).andThen λ_ w'=>.ok (.int .i64 (min n m:Nat)) w':=by unfold Builtin.copy_;simp only[arI,aqm,aqu,apA,run_underlying I,apE,cE H,D,show Nat.min n m=min n m from rfl,M];rfl
 by_cases Q:min n m*sz=0;have s:g=[]:=by rw[Q]at q;simpa using q
 subst s;refine⟨E,.int .i64 (min n m:Nat),w,by rw[b];simp[storeCells],.refl E,by simp[VR],?_⟩;have:d7 l off []=l:=by simp[d7]
 have:L.set i (.cells l)=L:=by
  apply arr
  grind
 simp[*];have C:F≠0:=by grind
 have S:=g1 C;subst S;obtain⟨w',O,R⟩:=TA (P:=P) (off:=off) h N U r (λx j=>apF.1 o x j) (by rw[k];omega);exact⟨E,.int .i64 (min n m:Nat),w',by rw[b,O];rfl,.refl E,by simp[VR],R⟩
theorem abw{z:List AV}(h:∀a∈z,AV.one a=true):∀n,∀a∈gq z n,AV.one a=true
 |0,a,ha=>by simp[gq]at ha
 |n+1,a,ha=>by simp only[gq,apy]at ha;exact ha.elim (h a) (abw h n a)
theorem ZZ{t e ty:TypeId}{sz:Nat}{z:List AV}{x:AV}{p:Value}(k:Rel w0 S0 E L w)(g:P.underlying t=some (.slice e))(H:dt P e=some sz)(s:zOf P e=some z)(b:z.length=sz)(f:VR E x p):
  (x=.nilsl->dA P w0 S0 E L (.tup []) w (Builtin.clear_ #[t] ty #[p])) /\
  (∀ i off m cap l,x=.lsl i off m cap sz->L[i]?=some (.cells l)->off+m * sz<=l.length ->
   dA P w0 S0 E (L.set i (.cells (d7 l off (gq z m)))) (.tup []) w (Builtin.clear_ #[t] ty #[p])):=by
 obtain⟨y,c,j,h⟩:=Tn (E:=E) s;refine⟨λo=>?_,λi off m cap l o q B=>?_⟩<;>subst o<;>simp only[VR]at f;subst f;exact .same k (v:=.tuple #[]) (by simp[Builtin.clear_,run_underlying g]) ⟨[],rfl,rfl⟩;obtain⟨G,F,d,C,rfl,g1,D,g3,g4⟩:=f;rcases aqQ m with n|n;subst n;refine⟨E,.tuple #[],w,by simp[Builtin.clear_,run_underlying g],.refl E,⟨[],rfl,rfl⟩,?_⟩;have:d7 l off (gq z 0)=l:=by simp[d7,gq]
 have:L.set i (.cells l)=L:=by
  apply arr
  grind
 simp[*];have A:=g1 asP;subst A;have a:VRL E (gq z m) (Builtin.zeroCells y.cells m).toList:=by have:=TI j m;simpa[Builtin.zeroCells]using this
 obtain⟨w',r,u⟩:=TA (P:=P) (off:=off) k q C a (abw h m) (by rw[kI,b];omega);refine⟨E,.tuple #[],w',?_,.refl E,⟨[],rfl,rfl⟩,u⟩;cases m with
 |zero=>omega
 | succ m =>
   unfold Builtin.clear_;simp only[arI,aqm,apA,run_underlying g,apE,c,r,ap7]
end
open Go Go.MapKept
section
variable {P:Program}{w0:World}{S0:SB}{E:Env}{L:List Blk}{w:World}{T:Tm}{a:Act}
def OA(P:Program):Nat->List Field->List Fu->Prop
 |_,[],[]=>True
 | i,f::fs,k::ks=>f.offset=i/\f.name ≠ "_" /\ afl P f.type=some k/\OA P (i+1) fs ks
 |_,_,_=>False
theorem ad0:∀{a:List Field}{i:Nat}{ks:List Fu},ad1 P i a=some ks->OA P i a ks
 |[],i,ks,h=>by simp only[ad1,apu]at h;subst h;trivial
 | f::a,i,ks,h=>by
   simp only[ad1]at h;split at h
   .rename_i hc;split at h
    .rename_i k ks' h1 h2;simp only[apu]at h;subst h;exact⟨hc.1,hc.2,h1,ad0 h2⟩
    .cases h
   .cases h
theorem WE{b:TypeId}{ks:List Fu}(h:gZ P b=some (.st ks)):∃a:Array Field,P.underlying b=some (.struct a)/\P.stoodInHeld b=false/\OA P 0 a.toList ks:=by
 unfold gZ at h;split at h<;>try simp only[apu,reduceCtorEq]at h
 rename_i a d;split at h;rename_i f;simp only[ap6,l5.st.injEq]at h;obtain⟨c,e,rfl⟩:=h;exact⟨a,d,f,ad0 e⟩;cases h
theorem WD{t:TypeId}{k:Fu}(h:afl P t=some k):(k=.int/\∃q,P.underlying t=some (.int q))\/(k=.str/\P.underlying t=some .string)\/(k=.bool/\P.underlying t=some .bool):=by
 unfold afl at h
 grind
theorem afe{t:TypeId}{k:Fu}(h:afl P t=some k){cs:Array Value}{i:Nat}{v:Value}(b:cs[i]?=some v)(w:World):(part t cs i).run P w=.ok v w:=by rcases WD h with⟨_,q,a⟩|⟨_,a⟩|⟨_,a⟩<;>simp[part,isAgg,run_underlying a,b]
theorem abz:∀{ks:List Fu}{l:List AV},th ks l=true->ks.length=l.length
 |[],[],_=>rfl
 |[],_::_,h=>by simp[th]at h
 |_::_,[],h=>by simp[th]at h
 |k::ks,a::l,h=>by simp only[th,apw]at h;simp[abz h.2]
theorem apg{t:TypeId}{k:Fu}(h:afl P t=some k){a b:AV}{u v:Value}{r:Bool}(j:anl k a=true)(i:VR E a u)(g:VR E b v)(c:ZR a b=some r)(d:Nat)(w:World):(Op.equalIn (d+1) t u v).run P w=.ok r w:=by rcases WD h with⟨rfl,q,f⟩|⟨rfl,f⟩|⟨rfl,f⟩<;>cases a<;>simp only[anl,apL]at j<;>cases b<;>simp only[ZR,reduceCtorEq]at c<;>simp only[VR]at i g<;>subst i<;>subst g;split at c<;>simp only[apu,reduceCtorEq]at c;rename_i e;subst e;subst c;rw[run_equalIn_int w d t _ _ _ _ f];rfl;simp only[apu]at c;subst c;rw[run_equalIn_string w d t _ _ f,<- beq_toListBytes];rename_i a b;congr 1;by_cases e:a=b;subst e;simp[bytes_beq];simp only[e,decide_false];rcases h':(({data:={toList:=a}}:ByteArray) == {data:={toList:=b}})with _|_;rfl;have:=(bytes_beq _ _).1 h';simp_all;simp only[apu]at c;subst c;rw[run_equalIn_bool' w d t _ _ f];rfl
theorem amP(d:Nat)(xs g:Array Value)(w:World):∀(e:List Field) (ks:List Fu) (i:Nat) (l m:List AV) (us vs:List Value) (r:Bool),OA P i e ks->th ks l=true->VRL E l us->VRL E m vs->(∀j,us[j]?=xs[i+j]?)->(∀j,vs[j]?=g[i+j]?)->JW l m=some r->(Op.eqFields (d+1) xs g e).run P w=.ok r w
 | [],ks,i,l,m,us,vs,r,hf,hp,hl,hm,hx,hy,hq=>by
   cases ks with
   |cons k ks=>simp[OA]at hf
   | nil =>
     cases l with
     |cons a l=>simp[th]at hp
     | nil =>
       cases m with
       |cons b m=>simp[JW]at hq
       |nil=>simp only[JW,apu]at hq;subst hq;simp[Op.eqFields]
 | f::e,ks,i,l,m,us,vs,r,hf,hp,hl,hm,hx,hy,hq=>by
   cases ks with
   |nil=>simp[OA]at hf
   | cons k ks =>
     cases l with
     |nil=>simp[th]at hp
     | cons a l =>
       cases m with
       |nil=>simp[JW]at hq
       | cons b m =>
         obtain⟨t,y,h,h4⟩:=hf;simp only[th,apw]at hp;obtain⟨u,p,rfl,z,o⟩:=hl;obtain⟨v,n,rfl,x,q⟩:=hm;have A:xs[i]?=some u:=(by have:=hx 0;simpa using this.symm);have s:g[i]?=some v:=(by have:=hy 0;simpa using this.symm);simp only[JW]at hq;simp only[Op.eqFields,ne_eq,y,not_false_eq_true,if_true,t,apA,afe h A,afe h s,apE];cases hk:ZR a b with
         |none=>rw[hk]at hq;cases hq
         | some c =>
           rw[hk]at hq;rw[apg h hp.1 z x hk d w];cases c with
           |false=>simp only[apu]at hq;subst hq;simp
           | true =>
             exact amP d xs g w e ks (i+1) l m p n r h4 hp.2 o q (λj=>by have:=hx (j+1);rw[show i+(j+1)=i+1+j by omega]at this;simpa using this) (λj=>by have:=hy (j+1);rw[show i+(j+1)=i+1+j by omega]at this;simpa using this) hq
theorem Z8{a:TypeId}{ks:List Fu}{b:Array Field}(g:P.underlying a=some (.struct b))(o:P.stoodInHeld a=false)(n:OA P 0 b.toList ks){l:List AV}{q:AV}{u v:Value}{r:Bool}(k:th ks l=true)(h:VR E (.agg l) u)(i:VR E q v)(f:J3 (.agg l) q=some r)(w:World):
  (Op.equal a u v).run P w=.ok r w:=by
 cases q<;>simp only[J3,reduceCtorEq]at f;rename_i m;obtain⟨us,rfl,c⟩:=h;obtain⟨vs,rfl,d⟩:=i;have e:P.fieldsOf a=b:=by simp[Program.fieldsOf,g]
 have:=run_equalIn_struct (P:=P) w 9999 a ⟨us⟩ ⟨vs⟩ (by rw[e];exact g) o;rw[e,amP 9998 ⟨us⟩ ⟨vs⟩ w b.toList ks 0 l m us vs r n k c d (λj=>asQ) (λj=>asQ) f]at this;exact this
theorem aj3{t:TypeId}(i:gZ P t=some (.st [.str,.str]))(m:P.eqGuardType P.depth t=false){b c a c':List UInt8}{u v:Value}(d:Bool){op:BinOp}(e:op=if d then .neq else .eql)(j:Rel w0 S0 E L w)(n:VR E (.agg [.str b,.str c]) u)(k:VR E (.agg [.str a,.str c']) v)(x y:Operand):
  dA P w0 S0 E L (.bool (if d then !decide (b=a/\c=c')else decide (b=a/\c=c'))) w (do eqGuard op t x y u v;binOp op t u v):=by
 obtain⟨A,q,r,o⟩:=WE i;have s:J3 (.agg [.str b,.str c]) (.agg [.str a,.str c'])=some (decide (b=a/\c=c')):=by
  simp only[J3,JW,ZR];by_cases z:b=a
  grind
  simp[*]
 have p:=Z8 q r o (l:=[.str b,.str c]) rfl n k s w;have g:=n;have h:=k;obtain⟨us,rfl,_⟩:=g;obtain⟨vs,rfl,_⟩:=h;have f:(Op.equalIn 10000 t (.agg ⟨us⟩) (.agg ⟨vs⟩)).run P w=.ok (decide (b=a/\c=c')) w:=p;cases d with
 | true =>
   subst e;refine .same (v:=.bool (!decide (b=a/\c=c'))) j ?_ (by simp only[if_true,VR]);simp only[apA,run_eqGuard_agg w .neq t x y ⟨us⟩ ⟨vs⟩ m,apE,run_neq_struct,f,if_true]
 | false =>
   subst e;refine .same (v:=.bool (decide (b=a/\c=c'))) j ?_ (by simp only[apL,if_false,VR]);simp only[apL,if_false,apA,run_eqGuard_agg w .eql t x y ⟨us⟩ ⟨vs⟩ m,apE,run_eql_struct,f]
end
section
variable {P:Program}{w0:World}{S0:SB}{E:Env}{L:List Blk}{w:World}{T:Tm}{a:Act}
theorem fj.same{av:AV}{v:Value}{s:Sem Next}(b:Rel w0 S0 E L w)(h:s.run P w=.ok (.value v) w)(a:VR E av v):fj P w0 S0 E L av w s:=⟨E,v,w,.inl h,.refl E,a,b⟩
theorem eE{x:Option Operand}{y:Option Opd}{r:Option Int}(c:TR E T a)(h:wa x=some y)(b:bnd T y=some r):Wt a x r:=amf c h b
theorem aiV{t:TypeId}{x:Operand}{g:Bool}{s:Nat}{y:Opd}{c:Prop}{av:AV}{L':List Blk}(d:Rel w0 S0 E L w)(j:TR E T a)(f:nB P t=some g)(k:dt P t=some s)(i:bV x=some y)(b:au T L (.load g s y)=some (c,av,L'))(e:c):fj P w0 S0 E L' av w (do pure (.value (<- Instr.loadAt t (a.eval x)))):=by
 simp only[au]at b;rcases h1:evD T y with _|u;simp_all;simp only[h1,aqF]at b;rcases h2:row L u with _|⟨l,off⟩;simp_all;simp only[h2]at b;have h:=kl d i h1 j;cases g;obtain⟨rfl,rfl,rfl⟩:=b;exact(afL d f h2 h e).done;obtain⟨rfl,rfl,rfl⟩:=b;exact(afK d f k h2 h e).done
theorem aha{t:TypeId}{p x:Operand}{s:Nat}{q y:Opd}{c:Prop}{av:AV}{L':List Blk}(m:Rel w0 S0 E L w)(e:TR E T a)(v:dt P t=some s)(r:bV p=some q)(n:bV x=some y)(b:au T L (.store s q y)=some (c,av,L'))(k:c):fj P w0 S0 E L' av w (do Instr.storeAt t (a.eval p) (a.eval x);pure .skip):=by
 simp only[au]at b;split at b<;>try cases b
 rename_i i off vals o f;split at b<;>try cases b
 rename_i l g;split at b<;>try cases b
 rename_i d;rcases h3:evX T y with _|u;simp_all;simp only[h3,aqF]at f;obtain⟨w',j,h⟩:=afB (P:=P) m v rfl (ao r o e) g (rE f (ao n h3 e)) d.2 d.1 k;exact⟨E,undef,w',.inr ⟨by simp[j],rfl⟩,.refl E,by simp[VR],h⟩;rename_i l g;split at b<;>try cases b
 rename_i d;rcases h3:evX T y with _|u;simp_all;simp only[h3,aqF]at f;obtain⟨w',j,h⟩:=ael (P:=P) m v rfl (ao r o e) g (rE f (ao n h3 e)) d.2 d.1 k;exact⟨E,undef,w',.inr ⟨by simp[j],rfl⟩,.refl E,by simp[VR],h⟩
theorem alg{t e:TypeId}{x:Operand}{I M F:Option Operand}{sz:Nat}{J:Opd}{C D q:Option Opd}{c:Prop}{av:AV}{L':List Blk}(o:Rel w0 S0 E L w)(d:TR E T a)(u:P.underlying t=some (.slice e))(v:dt P e=some sz)(p:bV x=some J)(j:wa I=some C)(i:wa M=some D)(n:wa F=some q)(g:au T L (.slV sz J C D q)=some (c,av,L'))(b:c):fj P w0 S0 E L' av w (do pure (.value (<- Instr.sliceAt t (a.eval x) (I.map a.eval) (M.map a.eval) (F.map a.eval)))):=by
 simp only[au]at g;have f:∀{r},bnd T q=some r->r=none->F=none:=λ{r} Q R=>by rcases eE d n Q with⟨h,_⟩|⟨_,_,_,_,h,_⟩;omega;simp_all
 split at g;rename_i k m l h4;simp only[apu,apI]at g;obtain⟨rfl,rfl,rfl⟩:=g;have:=f h4 rfl;subst this;exact(acI o u v (ao p k d) (eE d j m) (eE d i l) b.1 b.2).done;rename_i k m l h4;simp only[apu,apI]at g;obtain⟨rfl,rfl,rfl⟩:=g;have:=f h4 rfl;subst this;exact((ZW o u v (ao p k d) (eE d j m) (eE d i l) b.1 b.2.1).1 _ _ rfl b.2.2).done;rename_i k m l h4;simp only[apu,apI]at g;obtain⟨rfl,rfl,rfl⟩:=g;rcases eE d i l with⟨_,h⟩|⟨o1,G,N,rfl,B,y⟩;cases h;rcases eE d n h4 with⟨_,h⟩|⟨H,K,O,rfl,A,z⟩;cases h;cases B;cases A;exact(abN o u v (ao p k d).gsl_sl.1 (eE d j m) y z b.1 b.2.1 b.2.2.1 b.2.2.2.1 b.2.2.2.2).done;rename_i k m l h4;simp only[apu,apI]at g;obtain⟨rfl,rfl,rfl⟩:=g;rcases eE d i l with⟨_,h⟩|⟨o1,G,N,rfl,B,y⟩;cases h;rcases eE d n h4 with⟨_,h⟩|⟨H,K,O,rfl,A,z⟩;cases h;cases B;cases A;exact(abN o u v (ao p k d) (eE d j m) y z b.1 b.2.1 b.2.2.1 b.2.2.2.1 b.2.2.2.2).done;rename_i k m l h4;simp only[apu,apI]at g;obtain⟨rfl,rfl,rfl⟩:=g;have:=f h4 rfl;subst this;obtain⟨rfl,b⟩:=b;exact((ZW o u v (ao p k d).gsl_sl.1 (eE d j m) (eE d i l) b.1 b.2.1).1 _ _ rfl b.2.2).done;rename_i k m l h4;split at g<;>try cases g
 rename_i s;subst s;have:=f h4 rfl;subst this;exact((ZW o u v (ao p k d) (eE d j m) (eE d i l) b.1 b.2.1).2 _ _ _ rfl b.2.2).done;rename_i k m l h4;split at g<;>try cases g
 rename_i s;subst s;rcases eE d i l with⟨_,h⟩|⟨o1,G,N,rfl,B,y⟩;cases h;rcases eE d n h4 with⟨_,h⟩|⟨H,K,O,rfl,A,z⟩;cases h;cases B;cases A;exact(afD o u v (ao p k d) (eE d j m) y z b.1 b.2.1 b.2.2.1 b.2.2.2).done;simp_all
theorem alh{t e:TypeId}{x:Operand}{s r:Option Operand}{n sz:Nat}{u:Opd}{g h:Option Opd}{c:Prop}{av:AV}{L':List Blk}(k:Rel w0 S0 E L w)(f:TR E T a)(v:P.underlying t=some (.array n e))(y:dt P e=some sz)(q:bV x=some u)(j:wa s=some g)(i:wa r=some h)(d:au T L (.slA n sz u g h)=some (c,av,L'))(b:c):fj P w0 S0 E L' av w (do pure (.value (<- Instr.sliceAt t (a.eval x) (s.map a.eval) (r.map a.eval) none))):=by
 simp only[au]at d;split at d;rename_i o p m;simp only[apu,apI]at d;obtain⟨rfl,rfl,rfl⟩:=d;exact((aed k v y (kl k q o f) (eE f j p) (eE f i m) b.1 b.2.1 b.2.2.1).1 _ _ rfl).done;rename_i o p m;split at d<;>try cases d
 rename_i l z;exact((aed k v y (kl k q o f) (eE f j p) (eE f i m) b.1 b.2.1 b.2.2.1).2 _ _ _ rfl z b.2.2.2).done;simp_all
theorem ahb{t e:TypeId}{x i:Operand}{sz:Nat}{n o:Opd}{c:Prop}{av:AV}{L':List Blk}(g:Rel w0 S0 E L w)(f:TR E T a)(l:P.underlying t=some (.slice e))(m:dt P e=some sz)(j:bV x=some n)(p:bV i=some o)(h:au T L (.iaddr sz n o)=some (c,av,L'))(b:c):fj P w0 S0 E L' av w (do pure (.value (<- Instr.indexAt t (a.eval x) (a.eval i)))):=by
 simp only[au]at h;split at h<;>try cases h
 all_goals
  rename_i k q;have d:=ao p q f;simp only[VR]at d;rw[d]
 exact((SR g l m (ao j k f) b.1).1 _ _ _ rfl b.2).done;exact((SR g l m (ao j k f).gsl_sl.1 b.1).1 _ _ _ rfl b.2).done;exact((SR g l m (ao j k f) b.1).2 _ _ _ _ _ rfl b.2).done
theorem ae4{t e:TypeId}{x i:Operand}{n sz:Nat}{l m:Opd}{c:Prop}{av:AV}{L':List Blk}(f:Rel w0 S0 E L w)(h:TR E T a)(o:P.underlying t=some (.array n e))(p:dt P e=some sz)(j:bV x=some l)(q:bV i=some m)(g:au T L (.iaddrA n sz l m)=some (c,av,L'))(d:c):fj P w0 S0 E L' av w (do pure (.value (<- Instr.indexAt t (a.eval x) (a.eval i)))):=by
 simp only[au]at g;split at g<;>try cases g
 all_goals
  rename_i k r;have b:=ao q r h;simp only[VR]at b;rw[b]
 exact((Yg f o p (kl f j k h) d.1 d.2).1 _ _ rfl).done;exact((Yg f o p (kl f j k h) d.1 d.2).2 _ _ rfl).done
theorem ahd{t:TypeId}{i:Array Field}{f:Nat}{d:Field}{x:Operand}{h:Opd}{c:Prop}{av:AV}{L':List Blk}(b:Rel w0 S0 E L w)(g:TR E T a)(j:P.underlying t=some (.struct i))(m:i.toList[f]?=some d)(l:(dt P d.type).getD 0≠0)(k:bV x=some h)(e:au T L (.faddr d.offset h)=some (c,av,L')):fj P w0 S0 E L' av w (do pure (.value (<- Instr.fieldAt t (a.eval x) f))):=by
 simp only[au]at e;split at e<;>try cases e
 all_goals rename_i n
 exact((ZY b j m l (kl b k n g)).1 _ _ rfl).done;exact((ZY b j m l (kl b k n g)).2 _ _ rfl).done
theorem ahc{t:TypeId}{o:Array Field}{f sz:Nat}{g:Bool}{d:Field}{x:Operand}{n:Opd}{c:Prop}{av:AV}{L':List Blk}(h:Rel w0 S0 E L w)(k:TR E T a)(p:P.underlying t=some (.struct o))(q:o.toList[f]?=some d)(m:nB P d.type=some g)(r:dt P d.type=some sz)(i:bV x=some n)(b:au T L (.field g d.offset sz n)=some (c,av,L'))(e:c):fj P w0 S0 E L' av w (do pure (.value (<- Instr.field t (a.eval x) f))):=by
 simp only[au]at b;split at b<;>try cases b
 rename_i l j;cases g;obtain⟨rfl,rfl,rfl⟩:=b;exact((ZX h p q m r (ao i j k)).2 rfl e).done;obtain⟨rfl,rfl,rfl⟩:=b;exact((ZX h p q m r (ao i j k)).1 rfl e).done
theorem alm{op:BinOp}{t u:TypeId}{x y:Operand}{lo:LOp}{c:Prop}{av:AV}{L':List Blk}(hR:Rel w0 S0 E L w)(hT:TR E T a)(hl:SJ P op t x y=some lo)(he:au T L lo=some (c,av,L'))(hc:c):
  fj P w0 S0 E L' av w (do pure (.value (<- (do eqGuard op t x y (a.eval x) (a.eval y);binOp op t (a.eval x) (a.eval y))))):=by
 unfold SJ at hl;split at hl<;>try cases hl
 rename_i x' y' hx hy;have plain:∀{lo:LOp},lo=.bin op x' y'->au T L lo=some (c,av,L')->fj P w0 S0 E L' av w (do pure (.value (<- (do eqGuard op t x y (a.eval x) (a.eval y);binOp op t (a.eval x) (a.eval y))))):=λhlo he=>by
  subst hlo;simp only[au]at he;split at he<;>try cases he
  rename_i u v h1 h2;rcases h3:bin op u v with _|⟨c',r⟩;simp_all
  .simp only[h3,apN,apu,apI]at he;obtain⟨rfl,rfl,rfl⟩:=he;have hu:=ao hx h1 hT;have hv:=ao hy h2 hT;have hguard:(eqGuard op t x y (a.eval x) (a.eval y)).run P w=.ok () w:=by
    have:(∃k n,a.eval x=.int k n)\/(∃s,a.eval x=.string s):=by
     unfold bin at h3;split at h3<;>try cases h3
     all_goals (simp only[VR]at hu)
     simp[*];simp[*];simp[*];simp[*]
    unfold eqGuard;rcases this with⟨k,n,e⟩|⟨s,e⟩<;>rw[e]<;>cases op<;>simp
   obtain⟨E',x1,w',r1,r2⟩:=aj4 (P:=P) (t:=t) hR hu hv h3 hc;exact⟨E',x1,w',.inl (by simp[hguard,r1]),r2⟩
 have eqs:∀(neg:Bool) (k:EqK) (d:TypeDesc),op=(if neg then .neq else .eql)->P.underlying t=some d->k.fits d=true->(k=.iface->(lN x ||lN y)=true)->au T L (.eqk neg k x' y')=some (c,av,L') ->
   fj P w0 S0 E L' av w (do pure (.value (<- (do eqGuard op t x y (a.eval x) (a.eval y);binOp op t (a.eval x) (a.eval y))))):=λneg k d hop hd hk hif he=>by
  simp only[au]at he;split at he<;>try cases he
  rename_i u v h1 h2;rcases h3:eqA k u v with _|r
  .simp_all
  .simp only[h3,apN,apu,apI]at he;obtain⟨rfl,rfl,rfl⟩:=he;exact(al3 neg hop hR (ao hx h1 hT) (ao hy h2 hT) hd hk h3 x y hif).done
 have sln:∀(neg:Bool) (e:TypeId),op=(if neg then .neq else .eql)->P.underlying t=some (.slice e)->(if ZU y=true then some (LOp.slnil neg x')else none)=some lo->au T L lo=some (c,av,L') ->
   fj P w0 S0 E L' av w (do pure (.value (<- (do eqGuard op t x y (a.eval x) (a.eval y);binOp op t (a.eval x) (a.eval y))))):=λneg e hop hd hlo he=>by
  by_cases hnil:ZU y=true
  case neg=>rw[if_neg hnil]at hlo;cases hlo
  rw[if_pos hnil]at hlo;cases hlo;have hy':a.eval y=.slice none 0 0:=by
   unfold ZU at hnil;split at hnil
   .rfl
   simp_all
  rw[hy'];simp only[au]at he;split at he<;>try cases he
  all_goals
   rename_i h1;have hu:=ao hx h1 hT;simp only[VR]at hu;refine(afC neg hop hR hd ?_ x y).done
  .grind
  .grind
  .obtain⟨_,_,_,_,h2,_⟩:=hu;exact⟨_,_,h2,λe=>by cases e⟩
 have st2:∀(neg:Bool),op=(if neg then .neq else .eql)->(if ajL P t=true then some (LOp.eq2 neg x' y')else none)=some lo->au T L lo=some (c,av,L') ->
   fj P w0 S0 E L' av w (do pure (.value (<- (do eqGuard op t x y (a.eval x) (a.eval y);binOp op t (a.eval x) (a.eval y))))):=λneg hop hlo he=>by
  by_cases h2:ajL P t=true
  case neg=>rw[if_neg h2]at hlo;cases hlo
  rw[if_pos h2]at hlo;cases hlo;simp only[au]at he;split at he<;>try cases he
  rename_i b c b' c' h3 h4;unfold ajL at h2;split at h2
  .rename_i hkd;exact(aj3 hkd (by simpa using h2) neg hop hR (ao hx h3 hT) (ao hy h4 hT) x y).done
  .cases h2
 split at hl;cases hl;exact plain rfl he;cases hl;exact plain rfl he
 .rename_i d _ _ hd;split at hl<;>try (cases hl;done)
  all_goals try cases hl
  exact eqs false .bool _ rfl hd rfl asQ he;exact eqs true .bool _ rfl hd rfl asQ he;exact eqs false .ptr _ rfl hd rfl asQ he;exact eqs true .ptr _ rfl hd rfl asQ he;exact sln false _ rfl hd hl he;exact sln true _ rfl hd hl he;exact eqs false .map _ rfl hd rfl asQ he;exact eqs true .map _ rfl hd rfl asQ he;exact eqs false .func _ rfl hd rfl asQ he;exact eqs true .func _ rfl hd rfl asQ he;split at hl<;>try cases hl
  rename_i hcst;exact eqs false .iface _ rfl hd rfl (λ_=>hcst) he;split at hl<;>try cases hl
  rename_i hcst;exact eqs true .iface _ rfl hd rfl (λ_=>hcst) he;exact st2 false rfl hl he;exact st2 true rfl hl he
 cases hl
end
end Go.Proofs.YtdnfjhflkkpokaaGreatDoor.Av
