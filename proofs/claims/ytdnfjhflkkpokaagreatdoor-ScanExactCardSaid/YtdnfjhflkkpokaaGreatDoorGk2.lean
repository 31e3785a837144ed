/- Joined texts of the walk, made small by a program. -/
import Derived.Test.YtdnfjhflkkpokaaGreatDoorGk1
import Derived.MapKept
import Derived.Laws.StructEq
set_option linter.unusedSimpArgs false
set_option linter.unusedVariables false
namespace Go.Proofs.YtdnfjhflkkpokaaGreatDoor.Av
open Go
def dz(P:Program)(w0:World)(S0:SB)(E:Env)(L':List Blk)(av:AV)(w:World)(s:Sem Value):Prop :=
 ∃E' v w',s.run P w=.ok v w'/\E.le E'/\VR E' av v/\Rel w0 S0 E' L' w'
section
variable {P:Program}{w0:World}{S0:SB}{E:Env}{L:List Blk}{w:World}
theorem dz.same{av:AV}{v:Value}{s:Sem Value}(a:Rel w0 S0 E L w)(h:s.run P w=.ok v w)(b:VR E av v):dz P w0 S0 E L av w s:=⟨E,v,w,h,.refl E,b,a⟩
theorem cD{t:TypeId}{n:Nat}(h:dr P t=some n):(sizeOf t).run P w=.ok n w:=by unfold dr at h;simp only[apE]at h;obtain⟨i,a,rfl⟩:=h;simp[sizeOf,typeInfo,a]
theorem Eh{t:TypeId}{g:Bool}(h:m9 P t=some g):(isAgg t).run P w=.ok g w:=by unfold m9 at h;unfold isAgg;split at h<;>simp at h<;>subst h;rename_i f a;simp[run_underlying a];rename_i n e a;simp[run_underlying a];rename_i d c b a;simp only[ao7,run_underlying a,ao9];rfl
theorem SN{t:TypeId}{z:List AV}(h:zOf P t=some z):∃v,(∀w,(zeroValue t).run P w=.ok v w)/\VRL E z v.cells.toList/\∀a∈z,AV.one a=true:=by unfold zOf at h;rcases h1:P.info? t with _|i;simp_all;rcases h2:i.zero with _|v;simp_all;simp[h1,h2]at h;exact⟨v,λw=>by simp[zeroValue,typeInfo,h1,h2],aeR h⟩
theorem SO{t:TypeId}{z:List AV}(h:zOf P t=some z):∃v,(zeroValue t).run P w=.ok v w/\VRL E z v.cells.toList/\∀a∈z,AV.one a=true :=
 let ⟨v,h1,h2⟩:=SN (E:=E) h
 ⟨v,h1 w,h2⟩
theorem afi{t:TypeId}{p:AV}{v:Value}{l:List AV}{off:Nat}(c:Rel w0 S0 E L w)(g:m9 P t=some false)(d:row L p=some (l,off))(f:VR E p v)(a:off<l.length):
  dz P w0 S0 E L (l.getD off .undef) w (Instr.loadAt t v):=by
 obtain⟨b,o,rfl,e⟩:=V7 c d f;obtain⟨x,i,h⟩:=e off l[off] (ao8 a);refine .same c (v:=x) ?_ (by rw[apo,ao8 a];exact h);simp[Instr.loadAt,Instr.sureAddr,loadVar,Eh g,i]
theorem XE{t:TypeId}{l:List AV}{b o:Nat}(d:m9 P t=some true)(f:dr P t=some l.length)(c:∀(j:Nat) (a:AV),l[j]?=some a->∃x,w.cell? ⟨b,o+j,none⟩=some x/\VR E a x):∃cs,VRL E l cs/\(loadVar t ⟨b,o,none⟩).run P w=.ok (.agg ⟨cs⟩) w:=by
 obtain⟨cs,g,e⟩:=jb (P:=P) c;exact⟨cs,g,by simp[loadVar,Eh d,cD f,e]⟩
theorem afh{t:TypeId}{p:AV}{v:Value}{l:List AV}{off sz:Nat}(e:Rel w0 S0 E L w)(q:m9 P t=some true)(n:dr P t=some sz)(f:row L p=some (l,off))(i:VR E p v)(k:off+sz<=l.length):
  dz P w0 S0 E L (.agg ((l.drop off).take sz)) w (Instr.loadAt t v):=by
 obtain⟨b,o,rfl,g⟩:=V7 e f i;have c:((l.drop off).take sz).length=sz:=by simp;omega
 obtain⟨cs,r,m⟩:=XE (P:=P) (w:=w) (b:=b) (o:=o+off) (l:=(l.drop off).take sz) q (by rw[c];exact n) (λj a d=>by have h:j<sz:=(by have:=(aoZ.1 d).1;omega);rw[ap5 h,apY]at d;have:=g _ _ d;rwa[<- ap7]at this)
 refine .same e (v:=.agg ⟨cs⟩) ?_ ⟨cs,rfl,r⟩;simpa[Instr.loadAt,Instr.sureAddr]using m
theorem aj7{l:List AV}{vs:List Value}{b:List Value}{ty:TypeId}{fr:Nat×Nat}{E':Env}{i:Nat}(f:VRL E l vs)(d:E.le E')(c:E'.loc i=some ⟨w.heap.size,0,vs.length+b.length⟩)(e:∀o,o<=vs.length+b.length->¬(fr.1<=o/\o<fr.2)):
  bZ E' {w with heap:=w.heap.push (.cells ⟨vs++b⟩ ty fr)} i (.cells l):=by
 refine⟨_,⟨vs++b⟩,ty,fr,c,asp,asp,by have:=f.length;simp;omega,λj a h=>?_,λo _ n=>e o n⟩;obtain⟨v,g,m⟩:=f.get h;have k:j<vs.length:=(aoZ.1 g).1;exact⟨v,by simp[ao4 k,g],VR.mono d _ _ m⟩
theorem tq{l:List AV}{vs:List Value}(c:Rel w0 S0 E L w)(d:VRL E l vs)(a:List Value)(ty:TypeId)(fr:Nat×Nat)(b:∀o,o<=vs.length+a.length->¬(fr.1<=o/\o<fr.2)):
  ∃E',E.le E'/\E'.loc L.length=some ⟨w.heap.size,0,vs.length+a.length⟩/\Rel w0 S0 E' (L++[.cells l]) {w with heap:=w.heap.push (.cells ⟨vs++a⟩ ty fr)}:=by
 have e:E.loc L.length=none:=c.fresh _ (ao0 _);have:=c.push (.cells ⟨vs++a⟩ ty fr) (.cells l) ⟨w.heap.size,0,vs.length+a.length⟩ rfl rfl (aj7 d (Env.le_loc _ e) asp b)
 grind
theorem ahI{l:List AV}{vs:List Value}{b:List Value}{ty:TypeId}{fr:Nat×Nat}{E':Env}{i:Nat}(f:VRL E l vs)(d:E.le E')(c:E'.loc i=some ⟨w.heap.size,0,vs.length+b.length⟩)(e:∀o,o<vs.length+b.length->¬(fr.1<=o/\o<fr.2)):
  bZ E' {w with heap:=w.heap.push (.cells ⟨vs++b⟩ ty fr)} i (.bytes l):=by
 refine⟨_,⟨vs++b⟩,ty,fr,c,asp,asp,by have:=f.length;simp;omega,λj a h=>?_,λo _ n=>e o n⟩;obtain⟨v,g,m⟩:=f.get h;have k:j<vs.length:=(aoZ.1 g).1;exact⟨v,by simp[ao4 k,g],VR.mono d _ _ m⟩
theorem ac9{l:List AV}{vs:List Value}(c:Rel w0 S0 E L w)(d:VRL E l vs)(a:List Value)(ty:TypeId)(fr:Nat×Nat)(b:∀o,o<vs.length+a.length->¬(fr.1<=o/\o<fr.2)):
  ∃E',E.le E'/\E'.loc L.length=some ⟨w.heap.size,0,vs.length+a.length⟩/\Rel w0 S0 E' (L++[.bytes l]) {w with heap:=w.heap.push (.cells ⟨vs++a⟩ ty fr)}:=by
 have e:E.loc L.length=none:=c.fresh _ (ao0 _);have:=c.push (.cells ⟨vs++a⟩ ty fr) (.bytes l) ⟨w.heap.size,0,vs.length+a.length⟩ rfl rfl (ahI d (Env.le_loc _ e) asp b)
 grind
theorem XH{t:TypeId}{v:Value}{l:List AV}(c:Rel w0 S0 E L w)(a:VRL E l v.cells.toList):
  dz P w0 S0 E (L++[.cells l]) (.ptr L.length 0) w (do pure (.pointer (some (<- newVar t v)))):=by
 obtain⟨E',d,e,b⟩:=tq c a [] t (0,0) asp;refine⟨E',.pointer (some ⟨w.heap.size,0,none⟩),{w with heap:=w.heap.push (.cells v.cells t)},by simp[newVar,newRow],d,?_,by simpa using b⟩;simp only[VR];simp[*]
theorem afj{t:TypeId}{z:List AV}(c:Rel w0 S0 E L w)(e:zOf P t=some z):dz P w0 S0 E (L++[.cells z]) (.ptr L.length 0) w (Instr.alloc t true (.tuple #[])):=by obtain⟨v,d,b,_⟩:=SO (w:=w) (E:=E) e;obtain⟨E',x,w',a,h4⟩:=XH (P:=P) (t:=t) c b;exact⟨E',x,w',by simpa[Instr.alloc,d]using a,h4⟩
theorem ahy(cs:List Value):∀(j off:Nat) (z:Array Value),off+j+cs.length<=z.size ->
  ((cs.zipIdx j).foldl (λa (x:Value×Nat)=>a.setIfInBounds (off+x.2) x.1) z).size=z.size /\
  ∀k,((cs.zipIdx j).foldl (λa (x:Value×Nat)=>a.setIfInBounds (off+x.2) x.1) z)[k]?=if off+j<=k/\k<off+j+cs.length then cs[k-(off+j)]? else z[k]?:=by
 induction cs with
 |nil=>intro j off z _;exact⟨rfl,λk=>by rw[if_neg asp];rfl⟩
 | cons c cs ih =>
   intro j off z b;simp only[apb]at b;simp only[List.zipIdx_cons,ap0,apb];have:=ih (j+1) off (z.setIfInBounds (off+j) c) (by rw[Array.size_setIfInBounds];omega)
   grind
theorem Yw{T:Tm}{a:Act}(n:TR E T a){place:Nat->Option (Nat×Nat)}{d:TypeDesc}(p:∀i r,Vq P d i=some r->place i=some r):∀{ps:List (Nat×Operand)}{m:List (Nat×Nat×Opd)}{z l:List AV}{cells:Array Value},
  iC P d ps=some m->lM T z m=some l->VRL E z cells.toList->∃cs,Instr.fill place cells (ps.map λ(i,x)=>(i,a.eval x))=some cs/\VRL E l cs.toList
 |[],m,z,l,cells,hm,c,hz=>by simp[iC]at hm;subst hm;simp[lM]at c;subst c;exact⟨cells,by simp[Instr.fill],hz⟩
 | (i,x)::ps,m,z,l,cells,hm,c,hz=>by
   simp only[iC]at hm;split at hm<;>simp at hm;rename_i o s y F C v w;subst hm;simp only[lM]at c;split at c<;>try simp at c
   rename_i vals h4;obtain⟨⟨G,D⟩,c⟩:=c;rcases h7:evX T y with _|u
   .simp_all
   .simp[h7]at h4;have B:=aq v h7 n;have h:=rK h4 B;have e:=h.length;have f:=hz.length;have key:=ahy (a.eval x).cells.toList 0 o cells (by simp at e f⊢;omega);have j:VRL E (d6 z o vals) (((a.eval x).cells.toList.zipIdx 0).foldl (λa (x:Value×Nat)=>a.setIfInBounds (o+x.2) x.1) cells).toList:=by
     refine VRL.of_get (by rw[np aso];simpa using key.1.trans (by simpa using f)) λk b g=>?_
     rw[R3 aso]at g;rw[asa,key.2 k];by_cases q:o<=k/\k<o+vals.length
     .rw[if_pos q]at g;rw[if_pos aso];exact h.get g
     .rw[if_neg q]at g;rw[if_neg aso];simpa using hz.get g
    obtain⟨cs,A,t⟩:=Yw n p w c j;refine⟨cs,?_,t⟩;simp only[apv,Instr.fill,p _ _ C];rw[if_neg (by simp at e f⊢;omega)];rw[<- A];rw[<- Array.foldl_toList,Array.toList_zipIdx]
end
section
variable {P:Program}{w0:World}{S0:SB}{E:Env}{L:List Blk}{w:World}{T:Tm}{a:Act}
theorem Y7:∀(l:List Field),(∀f∈l,(dr P f.type).isSome=true) ->
  (l.mapM (m:=Sem) λf=>do pure (f.offset,<- sizeOf f.type)).run P w=.ok (l.map λf=>(f.offset,(dr P f.type).getD 0)) w
 |[],_=>asp
 | f::l,h=>by
   have a:=h f asp;rw[Option.isSome_iff_exists]at a;obtain⟨n,a⟩:=a;have c:=Y7 l λg b=>h g (by simp[b])
   rw[arM,ao7,ao7,cD a];simp_all
theorem adN{t:TypeId}{b:Array Field}{ps:List (Nat×Operand)}{z l:List AV}{m:List (Nat×Nat×Opd)}(h:TR E T a)(o:Rel w0 S0 E L w)(k:P.underlying t=some (.struct b))(u:zOf P t=some z)(g:b.toList.all (λf=>(dr P f.type).isSome)=true)(j:iC P (.struct b) ps=some m)(q:lM T z m=some l):
  dz P w0 S0 E L (.agg l) w (Instr.build t ⟨ps.map λ(i,x)=>(i,a.eval x)⟩):=by
 obtain⟨v,s,p,_⟩:=SO (w:=w) (E:=E) u;obtain⟨cs,y,h4⟩:=Yw (place:=λi=>(b.toList.map λf=>(f.offset,(dr P f.type).getD 0)).toArray[i]?) h (λi r c=>by simp only[Vq]at c;split at c<;>simp at c;rename_i f d;obtain⟨n,e,rfl⟩:=c;simp[d,e]) j q p
 refine .same o (v:=.agg cs) ?_ ⟨cs.toList,rfl,h4⟩;have:=Y7 (P:=P) (w:=w) b.toList (apa.1 g);simp only[Instr.build,ao7,s,ao9,run_underlying k,Array.mapM_eq_mapM_toList,Sem.run_map,this];simp_all
theorem adO{t e:TypeId}{n:Nat}{ps:List (Nat×Operand)}{z l:List AV}{m:List (Nat×Nat×Opd)}(d:TR E T a)(h:Rel w0 S0 E L w)(g:P.underlying t=some (.array n e))(p:zOf P t=some z)(f:iC P (.array n e) ps=some m)(b:(dr P e).isSome=true)(k:lM T z m=some l):
  dz P w0 S0 E L (.agg l) w (Instr.build t ⟨ps.map λ(i,x)=>(i,a.eval x)⟩):=by
 obtain⟨v,o,j,_⟩:=SO (w:=w) (E:=E) p;rw[Option.isSome_iff_exists]at b;obtain⟨s,b⟩:=b;obtain⟨cs,q,h4⟩:=Yw (place:=λi=>some (i*s,s)) d (λi r c=>by simp only[Vq,b,apl]at c;exact c) f k j
 refine .same h (v:=.agg cs) ?_ ⟨cs.toList,rfl,h4⟩;simp only[Instr.build,ao7,o,ao9,run_underlying g,cD b];simp[*]
theorem kF(z:List AV):∀n,(gu z n).length=n*z.length
 |0=>by simp[gu]
 |n+1=>by simp[gu,kF z n,ard];omega
theorem aa3{z:List AV}(b:0<z.length):∀(n i:Nat),i<n*z.length->(gu z n)[i]?=z[i%z.length]?
 |0,i,h=>by simp at h
 | n+1,i,h=>by
   simp only[gu];rcases apt i z.length with a|a
   .rw[ao4 a,Nat.mod_eq_of_lt a]
   .rw[ape a,aa3 b n (i-z.length) (by rw[ard]at h;omega)];rw[Nat.mod_eq_sub_mod a]
theorem Te{z:List AV}{vs:List Value}(h:VRL E z vs)(n:Nat):VRL E (gu z n) ((List.range (n*vs.length)).map λi=>vs.toArray[i%vs.toArray.size]!):=by
 have b:=h.length;refine VRL.of_get (by simp[kF,b]) λi x a=>?_
 have c:i<n*z.length:=by have:=(aoZ.1 a).1;rwa[kF]at this
 have d:0<z.length:=by grind
 rw[aa3 d n i c]at a;obtain⟨v,f,e⟩:=h.get a;simp[*]
theorem VI:∀{m:List (Nat×Nat×Opd)}{z l:List AV},lM T z m=some l->l.length=z.length
 |[],z,l,h=>by simp[lM]at h;rw[h]
 | (o,s,x)::m,z,l,h=>by
   simp only[lM]at h;split at h<;>try simp at h
   rename_i vals _;obtain⟨⟨a,b⟩,h⟩:=h;rw[VI h,np aso]
theorem adP{t e:TypeId}{n s:Nat}{own:Bool}{ps:List (Nat×Operand)}{z l:List AV}{m:List (Nat×Nat×Opd)}(B:TR E T a)(A:Rel w0 S0 E L w)(q:P.underlying t=some (.slice e))(h:dr P e=some s)(F:zOf P e=some z)(d:z.length=s)(J:n*s<=2^24)(C:iC P (.slice e) ps=some m)(y:lM T (gu z n) m=some l):
  if own then dz P w0 S0 E (L++[.cells l]) (.lsl L.length 0 n (some n) s) w (Instr.buildSlice t n ⟨ps.map λ(i,x)=>(i,a.eval x)⟩)
  else dz P w0 S0 E L (.sl l n (some n)) w (Instr.buildSlice t n ⟨ps.map λ(i,x)=>(i,a.eval x)⟩):=by
 obtain⟨v,I,u,_⟩:=SO (w:=w) (E:=E) F;have H:v.cells.size=s:=by have:=u.length;simpa[d]using this
 have g:VRL E (gu z n) ((Array.range (n*s)).map (v.cells[· % v.cells.size]!)).toList:=by have:=Te u n;simp_all
 obtain⟨cs,G,h4⟩:=Yw (place:=λi=>some (i*s,s)) B (λi r b=>by simp only[Vq,h,apl]at b;exact b) C y g
 have D:l.length=n*s:=by rw[VI y,kF,d]
 have f:=h4.length;have c:(Instr.buildSlice t n ⟨ps.map λ(i,x)=>(i,a.eval x)⟩).run P w=.ok (.slice (some ⟨w.heap.size,0,none⟩) n n) {w with heap:=w.heap.push (.cells cs e)}:=by by_cases k:n*s=0;have b:Array.range 0=#[]:=rfl;simp[k,b]at G;simp[Instr.buildSlice,run_underlying q,cD h,k,b,newRow];simp[*];simp[Instr.buildSlice,run_underlying q,cD h,show ¬(n*s>2^24)by omega,k,I,newRow];simp_all
 split;obtain⟨E',j,o,p⟩:=tq A h4 [] e (0,0) asp;refine⟨E',_,_,c,j,?_,by simpa using p⟩;exact⟨_,n,0,o,rfl,asp,ao0 _,asp,by simp at f⊢;omega⟩;obtain⟨E',j,o,p,K⟩:=A.imm cs.toList e l h4 [] (0,0);refine⟨E',_,_,c,j,?_,by simpa using o⟩;simp only[VR]
 grind
theorem ae8{t:TypeId}{v x:Value}{p:AV}{i off sz:Nat}{l vals:List AV}(j:Rel w0 S0 E L w)(k:dr P t=some sz)(o:p=.ptr i off)(f:VR E p v)(h:L[i]?=some (.cells l))(d:VRL E vals x.cells.toList)(a:vals.all AV.one=true)(b:vals.length=sz)(g:off+sz<=l.length):
  ∃w',(Instr.storeAt t v x).run P w=.ok () w'/\Rel w0 S0 E (L.set i (.cells (d6 l off vals))) w':=by
 subst o;obtain⟨c,e,rfl⟩:=f;have n:=d.length;obtain⟨w',q,m⟩:=S4 (P:=P) (off:=off) j h e d (by simpa using a) aso;refine⟨w',?_,m⟩;have:x.cells.size=sz:=by simpa[b]using n
 simp[Instr.storeAt,Instr.sureAddr,storeVar,cD k,this,q]
theorem adQ{t:TypeId}{v x:Value}{p:AV}{i off sz:Nat}{l vals:List AV}(j:Rel w0 S0 E L w)(k:dr P t=some sz)(o:p=.ptr i off)(f:VR E p v)(h:L[i]?=some (.bytes l))(d:VRL E vals x.cells.toList)(a:vals.all AV.one=true)(b:vals.length=sz)(g:off+sz<=l.length):
  ∃w',(Instr.storeAt t v x).run P w=.ok () w'/\Rel w0 S0 E (L.set i (.bytes (d6 l off vals))) w':=by
 subst o;obtain⟨c,e,rfl⟩:=f;have n:=d.length;obtain⟨w',q,m⟩:=agI (P:=P) (off:=off) j h e d (by simpa using a) aso;refine⟨w',?_,m⟩;have:x.cells.size=sz:=by simpa[b]using n
 simp[Instr.storeAt,Instr.sureAddr,storeVar,cD k,this,q]
theorem alD{op:UnOp}{x y:AV}{v:Value}(a:Rel w0 S0 E L w)(b:VR E x v)(h:un op x=some y):dz P w0 S0 E L y w (Op.unary op v):=by unfold un at h;split at h<;>simp at h<;>subst h<;>simp only[VR]at b<;>subst b;exact .same a (v:=.int _ _) (by simp[Op.unary,Op.intArith]) rfl;exact .same a (v:=.bool _) (by simp[Op.unary]) rfl
theorem ahv{op:BinOp}{t:TypeId}{k:IntKind}{m n:Int}{y:AV}{c:Prop}(hR:Rel w0 S0 E L w)(h:alX op k m n=some (c,y))(hc:c):
  dz P w0 S0 E L y w (binOp op t (.int k m) (.int k n)):=by
 cases op<;>simp only[alX,ao1,apf,reduceCtorEq]at h<;>obtain⟨rfl,rfl⟩:=h
 case quo=>exact .same hR (v:=.int _ _) (by simp[binOp,Op.intDiv,hc]) rfl
 case rem=>exact .same hR (v:=.int _ _) (by simp[binOp,Op.intDiv,hc]) rfl
 case add|sub|mul=>exact .same hR (v:=.int _ _) (by simp[binOp,Op.intArith]) rfl
 case and|or|xor|andNot=>exact .same hR (v:=.int _ _) (by simp[binOp,Op.intBits]) rfl
 case eql =>
  refine .same hR (v:=.bool (m == n)) (by simp[binOp,Op.intCmp]) ?_;rfl
 case neq =>
  refine .same hR (v:=.bool (m != n)) (by simp[binOp,Op.intCmp]) ?_;rfl
 all_goals exact .same hR (v:=.bool _) (by simp[binOp,Op.intCmp]) rfl
theorem ahu{op:BinOp}{t:TypeId}{x z:List UInt8}{y:AV}{c:Prop}(hR:Rel w0 S0 E L w)(h:alW op x z=some (c,y))(hc:c):
  dz P w0 S0 E L y w (binOp op t (.string ⟨⟨x⟩⟩) (.string ⟨⟨z⟩⟩)):=by
 have e1:(ByteArray.mk ⟨x⟩).toList=x:=arN x;have e2:(ByteArray.mk ⟨z⟩).toList=z:=arN z;have e3:(x == z)=decide (x=z):=by by_cases h:x=z<;>simp[h]
 cases op<;>simp only[alW,ao1,apf,reduceCtorEq]at h<;>obtain⟨rfl,rfl⟩:=h
 case add =>
  refine .same hR (v:=.string ⟨⟨x++z⟩⟩) ?_ rfl;have hs1:(ByteArray.mk ⟨x⟩).size=x.length:=rfl;have hs2:(ByteArray.mk ⟨z⟩).size=z.length:=rfl;have hm:¬(((x.length+z.length:Nat):Int)>IntKind.i64.max):=by simp_all
  simp only[binOp,Op.stringOp,hs1,hs2,if_neg hm];rfl
 all_goals exact .same hR (v:=.bool _) (by simp[binOp,Op.stringOp,e1,e2,e3];try rfl) rfl
end
section
variable {P:Program}{w0:World}{S0:SB}{E:Env}{L:List Blk}{w:World}{T:Tm}{a:Act}
theorem ajG{op:BinOp}{t:TypeId}{x y:AV}{u v:Value}{r:AV}{c:Prop}(f:Rel w0 S0 E L w)(a:VR E x u)(b:VR E y v)(h:bin op x y=some (c,r))(d:c):
  dz P w0 S0 E L r w (binOp op t u v):=by
 unfold bin at h;split at h;simp only[ao1,apf]at h;obtain⟨rfl,rfl⟩:=h;simp only[VR]at a b;subst a b;exact .same f (v:=.int _ _) (by simp[binOp,Op.shift,show ¬(_<(0:Int))from aqY.2 d]) rfl;simp only[ao1,apf]at h;obtain⟨rfl,rfl⟩:=h;simp only[VR]at a b;subst a b;exact .same f (v:=.int _ _) (by simp[binOp,Op.shift,show ¬(_<(0:Int))from aqY.2 d]) rfl;split at h;rename_i e;subst e;simp only[VR]at a b;subst a b;exact ahv f h d;cases h;simp only[VR]at a b;subst a b;exact ahu f h d;cases h
theorem ZD(t:TypeId)(x y:Value):Op.equal t x y=Op.equalIn (9999+1) t x y:=rfl
def EqK.fits:EqK->TypeDesc->Bool
 |.bool,.bool|.ptr,.pointer _|.slice,.slice _|.map,.map _ _|.func,.func _ _ _|.iface,.interface _=>true
 |_,_=>false
theorem VR.ptr_shape{i off:Nat}{v:Value}(h:VR E (.ptr i off) v):∃p,v=.pointer (some p):=by simp only[VR]at h;obtain⟨_,_,h⟩:=h;exact⟨_,h⟩
theorem VR.iptr_shape{l:List AV}{off:Nat}{v:Value}(h:VR E (.iptr l off) v):∃p,v=.pointer (some p):=by simp only[VR]at h;obtain⟨_,_,h,_⟩:=h;exact⟨_,h⟩
theorem VR.lsl_shape{i off n s:Nat}{c:Option Nat}{v:Value}(h:VR E (.lsl i off n c s) v):∃p c,v=.slice (some p) n c:=by simp only[VR]at h;obtain⟨_,_,_,_,h,_⟩:=h;exact⟨_,_,h⟩
theorem VR.lmap_shape{i:Nat}{v:Value}(h:VR E (.lmap i) v):∃p,v=.map (some p):=by simp only[VR]at h;obtain⟨_,_,h⟩:=h;exact⟨_,h⟩
theorem VR.func_shape{f:FuncId}{l:List AV}{v:Value}(h:VR E (.func f l) v):∃p,v=.func (.func f) #[] p:=by simp only[VR]at h;obtain⟨_,h,_⟩:=h;exact⟨_,h⟩
theorem VR.iface_shape{t:TypeId}{x:AV}{v:Value}(h:VR E (.iface t x) v):∃p,v=.iface t p:=by simp only[VR]at h;obtain⟨_,h,_⟩:=h;exact⟨_,h⟩
set_option maxHeartbeats 2000000 in
theorem alL{k:EqK}{t:TypeId}{d:TypeDesc}{x y:AV}{u v:Value}{r:Bool}(a:VR E x u)(b:VR E y v)(e:P.underlying t=some d)(c:k.fits d=true)(h:eqA k x y=some r):
  (Op.equal t u v).run P w=.ok r w/\(∀k m,u≠.int k m)/\(∀s,u≠.string s)/\(∀l,u≠.agg l)/\(u=.nilIface->v=.nilIface->k=.iface)/\(∀k f,u≠.float k f)/\(∀k f g,u≠.complex k f g):=by
 rw[ZD];generalize 9999=depth;unfold eqA at h;split at h<;>simp at h<;>subst h<;>cases d<;>simp[EqK.fits]at c
 all_goals
  (first
   |(obtain⟨_,rfl⟩:=a.ptr_shape)|(obtain⟨_,rfl⟩:=a.iptr_shape)|(obtain⟨_,_,rfl⟩:=a.lsl_shape)
   |(obtain⟨_,rfl⟩:=a.lmap_shape)|(obtain⟨_,rfl⟩:=a.func_shape)|(obtain⟨_,rfl⟩:=a.iface_shape)|(simp only[VR]at a;subst a))
  (first
   |(obtain⟨_,rfl⟩:=b.ptr_shape)|(obtain⟨_,rfl⟩:=b.iptr_shape)|(obtain⟨_,_,rfl⟩:=b.lsl_shape)
   |(obtain⟨_,rfl⟩:=b.lmap_shape)|(obtain⟨_,rfl⟩:=b.func_shape)|(obtain⟨_,rfl⟩:=b.iface_shape)|(simp only[VR]at b;subst b))
  (refine⟨?_,asp,asp,asp,asp,asp,asp⟩)
  (simp only[Op.equalIn,ao7,run_underlying e,ao9,apF,Option.isNone,beq_self_eq_true])
 rfl
theorem alE{op:BinOp}{k:EqK}{t:TypeId}{d:TypeDesc}{x y:AV}{u v:Value}{r:Bool}(a:Bool)(b:op=if a then .neq else .eql)(j:Rel w0 S0 E L w)(g:VR E x u)(m:VR E y v)(i:P.underlying t=some d)(f:k.fits d=true)(h:eqA k x y=some r)(X Y:Operand)(c:k=.iface->(lJ X ||lJ Y)=true):
  dz P w0 S0 E L (.bool (if a then !r else r)) w (do eqGuard op t X Y u v;binOp op t u v):=by
 obtain⟨q,o,l,n3,n4,n,e⟩:=alL (P:=P) (w:=w) g m i f h;have p:(eqGuard op t X Y u v).run P w=.ok () w:=by
  subst b;unfold eqGuard;cases a<;>simp
  all_goals
   split
   .have:=c (n4 rfl rfl);cases X<;>cases Y<;>simp[lJ]at this<;>simp
   .exact absurd rfl (n3 _)
   .rfl
 refine .same j (v:=.bool (if a then !r else r)) ?_ (by simp[VR]);rw[ao7,p,ao9];subst b;cases a<;>simp only[if_true,if_false,apj]
 all_goals
  cases u<;>first
   |exact absurd rfl (o _ _)
   |exact absurd rfl (l _)
   |exact absurd rfl (n _ _)
   |exact absurd rfl (e _ _ _)
   |simp[binOp,q]
theorem ae9{op:BinOp}{t e:TypeId}{u:Value}{n:Nat}(a:Bool)(b:op=if a then .neq else .eql)(h:Rel w0 S0 E L w)(f:P.underlying t=some (.slice e))(i:∃p c,u=.slice p n c/\(p=none->n=0))(X Y:Operand):
  dz P w0 S0 E L (if n=0 then .anyb else .bool a) w (do eqGuard op t X Y u (.slice none 0 0);binOp op t u (.slice none 0 0)):=by
 obtain⟨p,c,rfl,g⟩:=i;have k:(Op.equal t (.slice p n c) (.slice none 0 0)).run P w=.ok p.isNone w:=by rw[ZD];generalize 9999=depth;simp only[Op.equalIn,ao7,run_underlying f,ao9,apF,Option.isNone];cases p<;>rfl
 have j:(eqGuard op t X Y (.slice p n c) (.slice none 0 0)).run P w=.ok () w:=by unfold eqGuard;simp
 refine .same h (v:=.bool (if a then !p.isNone else p.isNone)) ?_ ?_;rw[ao7,j,ao9];subst b;cases a<;>simp[binOp,k];split;exact⟨_,rfl⟩;rename_i d;cases p with
 |none=>exact absurd (g rfl) d
 |some p=>cases a<;>rfl
theorem aht{s d:TypeId}{k:IntKind}{n:Int}{v:Value}{q:IntKind}(e:Rel w0 S0 E L w)(a:∃j,P.underlying s=some (.int j))(c:P.underlying d=some (.int k))(b:VR E (.int q n) v):
  dz P w0 S0 E L (.int k (k.wrap n)) w (convert s d v):=by
 obtain⟨j,a⟩:=a;simp only[VR]at b;subst b;exact .same e (v:=.int _ _) (by simp[convert,run_underlying a,run_underlying c,Conv.intToInt]) rfl
theorem afb{s d:TypeId}{v:Value}{x:AV}(e:Rel w0 S0 E L w)(f:P.underlying s=some .string)(c:P.underlying d=some .string)(a:VR E x v)(b:∃l,x=.str l):
  dz P w0 S0 E L x w (convert s d v):=by
 obtain⟨l,rfl⟩:=b;simp only[VR]at a;subst a;exact .same e (v:=.string _) (by simp[convert,run_underlying f,run_underlying c]) rfl
theorem VR.gsl_sl{l:List AV}{n i s:Nat}{v:Value}(h:VR E (.gsl l n i s) v):VR E (.sl l n none) v/\l.length=n*s:=by
 simp only[VR]at h⊢
 grind
theorem S7{sz n k:Nat}{l:List AV}{cap:Option Nat}{v:Value}(q:Rel w0 S0 E L w)(m:VR E (.sl l n cap) v)(u:l.length=n*sz)(h:k<=n):
  (Builtin.lenOf v).run P w=.ok n w/\∃cs,VRL E (l.take (k*sz)) cs/\cs.length=k*sz/\(Builtin.firstCells sz k v).run P w=.ok ⟨cs⟩ w:=by
 have s:k*sz<=n*sz:=ap6 _ h;have d:(l.take (k*sz)).length=k*sz:=by simp;omega
 obtain⟨p,c,rfl,y,t,e⟩:=m;refine⟨by simp[Builtin.lenOf],?_⟩;rcases e with⟨rfl,rfl,rfl⟩|⟨b,o,rfl,e⟩;have:k=0:=aso;subst this;exact⟨[],by simp[VRL],asp,by cases p<;>simp[Builtin.firstCells,loadCells,loadCellsFrom]⟩;obtain⟨cs,h4,f⟩:=jb (P:=P) (w:=w) (b:=b) (o:=o) (l:=l.take (k*sz)) λj a g=>by obtain⟨x,i,r⟩:=(e.take (k*sz)).get g;exact⟨x,q.mem _ _ _ i,r⟩
 exact⟨cs,h4,by rw[h4.length,d],by rw[d]at f;simpa[Builtin.firstCells]using f⟩
theorem bW{sz:Nat}{x:AV}{v:Value}{c:Prop}{l:List AV}{n:Nat}(A:Rel w0 S0 E L w)(f:VR E x v)(h:elems L sz x=some (c,l,n))(z:c):
  (Builtin.lenOf v).run P w=.ok n w/\l.length=n*sz/\∃cs,VRL E l cs/\(Builtin.firstCells sz n v).run P w=.ok ⟨cs⟩ w:=by
 unfold elems at h;split at h;simp only[ao1,apf]at h;obtain⟨rfl,rfl,rfl⟩:=h;simp only[VR]at f;subst f;exact⟨by simp[Builtin.lenOf],asp,[],by simp[VRL],by simp[Builtin.firstCells]⟩;rename_i l m cap;simp only[ao1,apf]at h;obtain⟨rfl,rfl,rfl⟩:=h;obtain⟨p,cs,r,_,H⟩:=S7 (P:=P) A f z (ao0 _)
 grind
 rename_i l m i s;simp only[ao1,apf]at h;obtain⟨rfl,rfl,rfl⟩:=h;subst z;obtain⟨f,z⟩:=f.gsl_sl;obtain⟨p,cs,r,_,H⟩:=S7 (P:=P) A f z (ao0 _)
 grind
 rename_i i off m cap s;split at h;rename_i u M;simp only[ao1,apf]at h;obtain⟨rfl,rfl,rfl⟩:=h;simp only[VR]at f;obtain⟨k,N,d,p,rfl,r,H,h4,Q⟩:=f;obtain⟨k',D,ty,fr,g1,J,g3,g4,K,O⟩:=A.blk i _ M;rw[p]at g1;cases g1;have e:((u.drop off).take (m*sz)).length=m*sz:=by simp;omega
 refine⟨by simp[Builtin.lenOf],e,?_⟩;rcases aqp m with q|q;subst q;exact⟨[],by simp[VRL],by simp[Builtin.firstCells,loadCells,loadCellsFrom]⟩;have C:=r aso;subst C;obtain⟨cs,B,y⟩:=jb (P:=P) (w:=w) (b:=k.blk) (o:=k.off+off) (l:=(u.drop off).take (m*sz)) λj a g=>by have G:j<m*sz:=(by have:=(aoZ.1 g).1;omega);rw[ap5 G,apY]at g;obtain⟨x,t,F⟩:=K _ _ g;refine⟨x,?_,F⟩;rw[<- ap7]at t;simp[World.cell?,J,t]
 exact⟨cs,B,by rw[e]at y;simpa[Builtin.firstCells]using y⟩;rename_i u M;simp only[ao1,apf]at h;obtain⟨rfl,rfl,rfl⟩:=h;simp only[VR]at f;obtain⟨k,N,d,p,rfl,r,H,h4,Q⟩:=f;obtain⟨k',D,ty,fr,g1,J,g3,g4,K,O⟩:=A.blk i _ M;rw[p]at g1;cases g1;have e:((u.drop off).take (m*sz)).length=m*sz:=by simp;omega
 refine⟨by simp[Builtin.lenOf],e,?_⟩;rcases aqp m with q|q;subst q;exact⟨[],by simp[VRL],by simp[Builtin.firstCells,loadCells,loadCellsFrom]⟩;have C:=r aso;subst C;obtain⟨cs,B,y⟩:=jb (P:=P) (w:=w) (b:=k.blk) (o:=k.off+off) (l:=(u.drop off).take (m*sz)) λj a g=>by have G:j<m*sz:=(by have:=(aoZ.1 g).1;omega);rw[ap5 G,apY]at g;obtain⟨x,t,F⟩:=K _ _ g;refine⟨x,?_,F⟩;rw[<- ap7]at t;simp[World.cell?,J,t]
 exact⟨cs,B,by rw[e]at y;simpa[Builtin.firstCells]using y⟩;cases h;split at h;rename_i s I;simp only[ao1,apf]at h;obtain⟨rfl,rfl,rfl⟩:=h;simp only[VR]at f;subst f;subst I;refine⟨by simp[Builtin.lenOf];rfl,by simp[u8s],s.map λb=>.int .u8 b.toNat,?_,?_⟩;refine VRL.of_get (by simp[u8s]) λi a g=>?_
 simp only[u8s,apS,apE]at g⊢;obtain⟨b,p,rfl⟩:=g;exact⟨_,⟨b,p,rfl⟩,rfl⟩;have:(ByteArray.mk ⟨s⟩).extract 0 s.length=⟨⟨s⟩⟩:=by apply ByteArray.ext;simp
 simp[Builtin.firstCells,this];cases h;cases h
end
section
variable {P:Program}{w0:World}{S0:SB}{E:Env}{L:List Blk}{w:World}{T:Tm}{a:Act}
theorem aaa:∀(l:List AV) (cs:List Value) (s:ByteArray),VRL E l cs->l.all ae0=true ->
  ((forIn (m := Sem) cs s fun c r => match c with
    |.int .u8 n=>pure (.yield (r.push (UInt8.ofNat n.toNat)))
    | _=>do
      stuck (α:=PUnit) "bytesToString: byte expected"
      pure (.yield r)):Sem ByteArray).run P w=.ok ⟨s.data++(l.map abI).toArray⟩ w
 |[],cs,s,h,_=>by simp only[VRL]at h;subst h;simp
 | a::l,cs,s,h,hb=>by
   obtain⟨x,xs,rfl,e,g⟩:=h;simp only[aqd,ao3]at hb;obtain⟨d,b⟩:=hb;have:∃n,a=.int .u8 n:=by
    unfold ae0 at d
    grind
   obtain⟨n,rfl⟩:=this;simp only[VR]at e;subst e;have f:=aaa l xs (s.push (UInt8.ofNat n.toNat)) g b;simp only[List.forIn_cons,ao7,apF,ao9];rw[f];congr 1;simp[ByteArray.push,abI]
theorem NB(w:World)(c:Array Value)(e:TypeId):World.freeze {w with heap:=w.heap.push (.cells c e)} ⟨w.heap.size,c.size,none⟩ 1={w with heap:=w.heap.push (.cells c e (c.size,c.size+1))}:=by
 simp only[World.freeze,Nat.one_ne_zero,if_false];congr 1
 grind
theorem R5(w:World)(c:Array Value)(e:TypeId):World.shape? {w with heap:=w.heap.push (.cells c e)} w.heap.size=some (e,c.size):=by simp only[World.shape?,Array.getElem?_push_size]
theorem ajH{s d e:TypeId}{x:AV}{v:Value}{c:Prop}{l:List AV}{n:Nat}(j:Rel w0 S0 E L w)(y:P.underlying s=some (.slice e))(B:P.underlying e=some (.int .u8))(u:P.underlying d=some .string)(b:VR E x v)(h:elems L 1 x=some (c,l,n))(o:c)(z:l.all ae0=true)(D:∀t,x≠.str t):dz P w0 S0 E L (.str (l.map abI)) w (convert s d v):=by
 obtain⟨C,F,cs,i,h4⟩:=bW (P:=P) j b h o;refine .same j (v:=.string ⟨⟨l.map abI⟩⟩) ?_ (by simp[VR]);have f:∃a n c,v=.slice a n c:=by cases x<;>simp[elems]at h;simp_all;simp only[VR]at b;exact⟨_,_,_,b⟩;simp only[VR]at b;obtain⟨_,_,rfl,_⟩:=b;exact⟨_,_,_,rfl⟩;obtain⟨_,_,rfl⟩:=b.lsl_shape;exact⟨_,_,_,rfl⟩;simp only[VR]at b;obtain⟨_,_,rfl,_⟩:=b;exact⟨_,_,_,rfl⟩
 obtain⟨a,m,k,rfl⟩:=f;have q:m=n:=by simpa[Builtin.lenOf]using C
 subst q;have g:(convert s d (.slice a m k)).run P w=(Conv.bytesToString (.slice a m k)).run P w:=by simp[convert,run_underlying y,run_underlying u,run_underlying B]
 rw[g];cases a with
 | none =>
   have:cs=[]:=(by simpa[Builtin.firstCells]using h4.symm);subst this;have A:l=[]:=(by have:=i.length;simpa using this.symm);subst A;rfl
 | some p =>
   simp only[Builtin.firstCells,Nat.mul_one]at h4;simp only[Conv.bytesToString,ao7,h4,ao9];have:=aaa (P:=P) (w:=w) l cs ByteArray.empty i z;rw[show(⟨cs⟩:Array Value)=cs.toArray from rfl,List.forIn_toArray];refine(congrArg (λr=>Result.andThen r λa w'=>(Pure.pure (Value.string a):Sem Value).run P w') this).trans ?_;simp
theorem ajE{s d e:TypeId}{v:Value}{x:List UInt8}(c:Rel w0 S0 E L w)(t:P.underlying s=some .string)(r:P.underlying d=some (.slice e))(y:P.underlying e=some (.int .u8))(o:VR E (.str x) v):
  dz P w0 S0 E L (.sl (u8s x) x.length none) w (convert s d v):=by
 simp only[VR]at o;subst o;have j:(ByteArray.mk ⟨x⟩).size=x.length:=rfl;obtain⟨cap,f⟩:∃cap,cap=(Question.appendCap x.length 0 e).cut (w.tape w.drawn (.appendCap x.length 0 e)):=⟨_,rfl⟩;have u:x.length<=cap:=by rw[f];simp[Question.cut]
 have h:VRL E (u8s x) (x.map λb=>Value.int .u8 b.toNat):=VRL.of_get (by simp[u8s]) λi a n=>by simp only[u8s,apS,apE]at n⊢;obtain⟨b,B,rfl⟩:=n;exact⟨_,⟨b,B,rfl⟩,rfl⟩
 have l:Rel w0 S0 E L {w with drawn:=w.drawn+1}:=⟨c.mem,λi k q=>bZ.world (λ_ _=>rfl) (λ_ _ _ _=>rfl) (c.blk i k q),c.fresh,c.own,c.inj,c.tkfresh,c.tkown,c.tkloc,c.tkinj,c.frame,c.size,c.os,c.tape,c.output,c.glob,c.gsz⟩;obtain⟨A,z,p,C,_⟩:=l.imm (x.map λb=>Value.int .u8 b.toNat) e (u8s x) h (List.replicate (cap-x.length) (.int .u8 0)) (x.length+(cap-x.length),x.length+(cap-x.length)+1);have key:(convert s d (.string ⟨⟨x⟩⟩)).run P w=.ok (.slice (some ⟨w.heap.size,0,none⟩) x.length cap) {w with heap:=w.heap.push (.cells ⟨(x.map λb=>Value.int .u8 b.toNat)++List.replicate (cap-x.length) (.int .u8 0)⟩ e (x.length+(cap-x.length),x.length+(cap-x.length)+1)),drawn:=w.drawn+1}:=by
  have g:((ByteArray.mk ⟨x⟩).data.map λb=>Value.int .u8 b.toNat)++Array.replicate (cap-x.length) (.int .u8 0)=⟨(x.map λb=>Value.int .u8 b.toNat)++List.replicate (cap-x.length) (.int .u8 0)⟩:=by simp
  have m:(convert s d (.string ⟨⟨x⟩⟩)).run P w=(Conv.stringToBytes e ⟨⟨x⟩⟩).run P w:=by simp only[convert,ao7,run_underlying t,run_underlying r,ao9,run_underlying y]
  rw[m];unfold Conv.stringToBytes;simp only[ao7,run_choose,Question.forced,j,<- f,g,newRow,run_newObj,ao9,apF,markStringish,run_shape,apj,if_false];rw[R5 {w with drawn:=w.drawn+1}];simp only[run_freeze,ao9];rw[NB {w with drawn:=w.drawn+1}];simp
 refine⟨A,.slice (some ⟨w.heap.size,0,none⟩) x.length cap,_,key,z,?_,p⟩;simp only[VR]
 grind
theorem ahn{s d e:TypeId}{v:Value}{x:List UInt8}(c:Rel w0 S0 E L w)(y:P.underlying s=some .string)(u:P.underlying d=some (.slice e))(z:P.underlying e=some (.int .u8))(p:VR E (.str x) v):
  dz P w0 S0 E (L++[.bytes (u8s x)]) (.lsl L.length 0 x.length none 1) w (convert s d v):=by
 simp only[VR]at p;subst p;have j:(ByteArray.mk ⟨x⟩).size=x.length:=rfl;obtain⟨cap,f⟩:∃cap,cap=(Question.appendCap x.length 0 e).cut (w.tape w.drawn (.appendCap x.length 0 e)):=⟨_,rfl⟩;have m:x.length<=cap:=by rw[f];simp[Question.cut]
 have h:VRL E (u8s x) (x.map λb=>Value.int .u8 b.toNat):=VRL.of_get (by simp[u8s]) λi a o=>by simp only[u8s,apS,apE]at o⊢;obtain⟨b,C,rfl⟩:=o;exact⟨_,⟨b,C,rfl⟩,rfl⟩
 have l:Rel w0 S0 E L {w with drawn:=w.drawn+1}:=⟨c.mem,λi k t=>bZ.world (λ_ _=>rfl) (λ_ _ _ _=>rfl) (c.blk i k t),c.fresh,c.own,c.inj,c.tkfresh,c.tkown,c.tkloc,c.tkinj,c.frame,c.size,c.os,c.tape,c.output,c.glob,c.gsz⟩;obtain⟨B,A,q,r⟩:=ac9 l h (List.replicate (cap-x.length) (.int .u8 0)) e (x.length+(cap-x.length),x.length+(cap-x.length)+1) (by simp;omega);have key:(convert s d (.string ⟨⟨x⟩⟩)).run P w=.ok (.slice (some ⟨w.heap.size,0,none⟩) x.length cap) {w with heap:=w.heap.push (.cells ⟨(x.map λb=>Value.int .u8 b.toNat)++List.replicate (cap-x.length) (.int .u8 0)⟩ e (x.length+(cap-x.length),x.length+(cap-x.length)+1)),drawn:=w.drawn+1}:=by
  have g:((ByteArray.mk ⟨x⟩).data.map λb=>Value.int .u8 b.toNat)++Array.replicate (cap-x.length) (.int .u8 0)=⟨(x.map λb=>Value.int .u8 b.toNat)++List.replicate (cap-x.length) (.int .u8 0)⟩:=by simp
  have n:(convert s d (.string ⟨⟨x⟩⟩)).run P w=(Conv.stringToBytes e ⟨⟨x⟩⟩).run P w:=by simp only[convert,ao7,run_underlying y,run_underlying u,ao9,run_underlying z]
  rw[n];unfold Conv.stringToBytes;simp only[ao7,run_choose,Question.forced,j,<- f,g,newRow,run_newObj,ao9,apF,markStringish,run_shape,apj,if_false];rw[R5 {w with drawn:=w.drawn+1}];simp only[run_freeze,ao9];rw[NB {w with drawn:=w.drawn+1}];simp
 refine⟨B,.slice (some ⟨w.heap.size,0,none⟩) x.length cap,_,key,A,?_,r⟩;refine⟨_,cap,0,q,rfl,asp,m,asp,?_⟩;simp_all
theorem aho{s d e:TypeId}{v:Value}{x:List UInt8}(f:Rel w0 S0 E L w)(M:P.underlying s=some .string)(J:P.underlying d=some (.slice e))(O:P.underlying e=some (.int .u8))(A:VR E (.str x) v):
  dz P w0 S0 E (L++[.spare x.length 1]) (.gsl (u8s x) x.length L.length 1) w (convert s d v):=by
 simp only[VR]at A;subst A;have y:(ByteArray.mk ⟨x⟩).size=x.length:=rfl;obtain⟨cap,g⟩:∃cap,cap=(Question.appendCap x.length 0 e).cut (w.tape w.drawn (.appendCap x.length 0 e)):=⟨_,rfl⟩;have r:x.length<=cap:=by rw[g];simp[Question.cut]
 have p:VRL E (u8s x) (x.map λb=>Value.int .u8 b.toNat):=VRL.of_get (by simp[u8s]) λi a B=>by simp only[u8s,apS,apE]at B⊢;obtain⟨b,G,rfl⟩:=B;exact⟨_,⟨b,G,rfl⟩,rfl⟩
 have q:Rel w0 S0 E L {w with drawn:=w.drawn+1}:=⟨f.mem,λi k m=>bZ.world (λ_ _=>rfl) (λ_ _ _ _=>rfl) (f.blk i k m),f.fresh,f.own,f.inj,f.tkfresh,f.tkown,f.tkloc,f.tkinj,f.frame,f.size,f.os,f.tape,f.output,f.glob,f.gsz⟩;obtain⟨Q,Y,H,S,T,V,I⟩:=q.imm' (x.map λb=>Value.int .u8 b.toNat) e (u8s x) p (List.replicate (cap-x.length) (.int .u8 0)) (x.length+(cap-x.length),x.length+(cap-x.length)+1);have key:(convert s d (.string ⟨⟨x⟩⟩)).run P w=.ok (.slice (some ⟨w.heap.size,0,none⟩) x.length cap) {w with heap:=w.heap.push (.cells ⟨(x.map λb=>Value.int .u8 b.toNat)++List.replicate (cap-x.length) (.int .u8 0)⟩ e (x.length+(cap-x.length),x.length+(cap-x.length)+1)),drawn:=w.drawn+1}:=by
  have h:((ByteArray.mk ⟨x⟩).data.map λb=>Value.int .u8 b.toNat)++Array.replicate (cap-x.length) (.int .u8 0)=⟨(x.map λb=>Value.int .u8 b.toNat)++List.replicate (cap-x.length) (.int .u8 0)⟩:=by simp
  have z:(convert s d (.string ⟨⟨x⟩⟩)).run P w=(Conv.stringToBytes e ⟨⟨x⟩⟩).run P w:=by simp only[convert,ao7,run_underlying M,run_underlying J,ao9,run_underlying O]
  rw[z];unfold Conv.stringToBytes;simp only[ao7,run_choose,Question.forced,y,<- g,h,newRow,run_newObj,ao9,apF,markStringish,run_shape,apj,if_false];rw[R5 {w with drawn:=w.drawn+1}];simp only[run_freeze,ao9];rw[NB {w with drawn:=w.drawn+1}];simp
 have l:ahS w0 S0 Q L {w with heap:=w.heap.push (.cells ⟨(x.map λb=>Value.int .u8 b.toNat)++List.replicate (cap-x.length) (.int .u8 0)⟩ e (x.length+(cap-x.length),x.length+(cap-x.length)+1)),drawn:=w.drawn+1} L.length x.length 1 (some ⟨w.heap.size,0,cap⟩):=by rintro k m;cases m;refine⟨⟨_,_,_,Array.getElem?_push_size,by simp;omega,λo G K=>by simp only at K⊢;omega⟩,λo X=>I o (by simpa using X),.inr f.size,λj k' c u U C e=>?_,λj Z N t' k' R u D t e=>?_⟩;rw[T]at C;have:=f.loc_lt u U C;simp_all;rw[V]at D;have:=f.tok_lt u D t;simp_all
 obtain⟨F,W⟩:=H.addtok (n:=x.length) (sz:=1) l;refine⟨_,.slice (some ⟨w.heap.size,0,none⟩) x.length cap,_,key,Y.trans F,?_,W⟩;exact⟨_,cap,rfl,r,by simp[u8s],.inr ⟨_,0,rfl,VRC.mono F _ _ _ S⟩,⟨x.length,1,some ⟨w.heap.size,0,cap⟩⟩,asp,asp,λ_=>⟨rfl,asp,λk m=>by cases m;exact⟨rfl,asp⟩⟩⟩
theorem adJ{t:TypeId}{v:Value}{x:List UInt8}(b:Rel w0 S0 E L w)(c:P.underlying t=some .string)(a:VR E (.str x) v):
  dz P w0 S0 E (L++[.siter x 0]) (.ptr L.length 0) w (Instr.range t v):=by
 simp only[VR]at a;subst a;have:=b.push (.stringIter ⟨⟨x⟩⟩ 0) (.siter x 0) ⟨w.heap.size,0,0⟩ rfl rfl ⟨⟨w.heap.size,0,0⟩,asp,asp,rfl⟩;refine⟨_,.pointer (some ⟨w.heap.size,0,none⟩),_,?_,this.1,?_,this.2⟩;simp[Instr.range,run_underlying c];simp only[VR];simp
theorem afc{t:TypeId}{v:Value}{i p:Nat}{x:List UInt8}(h:Rel w0 S0 E L w)(m:L[i]?=some (.siter x p))(r:VR E (.ptr i 0) v):
  dz P w0 S0 E (if p<x.length then L.set i (.siter x (p+(XY x p).2))else L) (if p<x.length then .tup [.bool true,.int .i64 (p:Int),.int .i32 ((XY x p).1:Int)]else .tup [.bool false]) w (Instr.next v true t):=by
 obtain⟨c,f,rfl⟩:=r;obtain⟨c',q,j,l⟩:=h.blk i _ m;rw[f]at q;cases q;have d:(ByteArray.mk ⟨x⟩).size=x.length:=rfl;have g:c.blk<w.heap.size:=(apP.1 j).1;have n:(getObj c.blk).run P w=.ok (.stringIter ⟨⟨x⟩⟩ p) w:=by simp[getObj,Sem.run,j]
 have k:∀o,(setObj c.blk o).run P w=.ok () {w with heap:=w.heap.setIfInBounds c.blk o}:=λo=>by simp[setObj,Sem.run,j]
 rw[l];by_cases a:p<x.length;rw[if_pos a,if_pos a];have:=h.turn (w':={w with heap:=w.heap.setIfInBounds c.blk (.stringIter ⟨⟨x⟩⟩ (p+(XY x p).2))}) (k':=.siter x (p+(XY x p).2)) m rfl f asp (λb s=>by simp[art,Ne.symm s]) rfl rfl rfl
  ⟨c,f,by simp[g],l⟩ (λ_ _ e=>by cases e)
 refine⟨E,.tuple #[.bool true,goInt p,.int .i32 ((XY x p).1:Int)],_,?_,.refl E,?_,this⟩;simp[Instr.next,n,d,a,k,XY];simp[VR,VRL,goInt];rw[if_neg a,if_neg a];refine .same h (v:=.tuple #[.bool false]) (by simp[Instr.next,n,d,a]) ?_;simp[VR,VRL]
end
section
variable {P:Program}{w0:World}{S0:SB}{E:Env}{L:List Blk}{w:World}{T:Tm}{a:Act}
theorem acf{t e:TypeId}{s b:Nat}{z:List AV}{n m:Int}{k j:IntKind}(u:Rel w0 S0 E L w)(D:P.underlying t=some (.slice e))(F:dr P e=some s)(h:aab P e=some b)(q:zOf P e=some z)(c:z.length=s)(f:0<=n)(J:n<=m)(H:b*m<=2^48)(I:m<2^62):
  dz P w0 S0 E (L++[.cells (gu z m.toNat)]) (.lsl L.length 0 n.toNat (some m.toNat) s) w (Instr.makeSlice t (.int k n) (.int j m)):=by
 obtain⟨v,g1,l,_⟩:=SO (w:=w) (E:=E) q;have x:v.cells.size=s:=by have:=l.length;simpa[c]using this
 have a:VRL E (gu z m.toNat) ((Array.range (m.toNat*s)).map (v.cells[· % v.cells.size]!)).toList:=by have:=Te l m.toNat;simp_all
 obtain⟨i,C,d⟩:∃i,P.info? e=some i/\i.bytes=b:=by unfold aab at h;simpa using h
 have g:(typeInfo e).run P w=.ok i w:=by simp[typeInfo,C]
 obtain⟨E',G,y,p⟩:=tq u a [] e (0,0) asp;have B:IntKind.i64.wrap n=n:=by simp only[IntKind.wrap,IntKind.bits,IntKind.signed];simp;omega
 have r:IntKind.i64.wrap m=m:=by simp only[IntKind.wrap,IntKind.bits,IntKind.signed];simp;omega
 refine⟨E',.slice (some ⟨w.heap.size,0,none⟩) n.toNat m.toNat,_,?_,G,?_,p⟩;have A:(decide (m<0) ||decide ((b:Int)*m>2^48))=false:=by simp;omega
 have c2:(decide (n<0))=false:=by simp;omega
 have c3:(decide (n>m))=false:=by simp;omega
 simp only[Instr.makeSlice,ao7,run_underlying D,ao9,asInt,asIntOf,apF,g,d,B,r,A,c2,c3,Bool.or_self,apj,if_false,run_askRoom,cD F];by_cases f:m.toNat*s=0;have o:Array.range 0=#[]:=rfl;simp[f,o,newRow];simp[f,g1,newRow];congr 2
 grind
 refine⟨_,m.toNat,0,y,rfl,asp,aso,asp,?_⟩;simp
theorem alT{x:Option Operand}{y:Option Opd}{r:Option Int}(c:TR E T a)(h:wi x=some y)(b:bnd T y=some r):
  (x=none/\r=none)\/∃o k n,x=some o/\r=some n/\a.eval o=.int k n:=by
 cases x with
 |none=>simp[wi]at h;subst h;simp[bnd]at b;exact .inl ⟨rfl,b.symm⟩
 | some o =>
   simp only[wi,apE]at h;obtain⟨u,d,rfl⟩:=h;simp only[bnd]at b;split at b
   .rename_i k n hn;simp at b;subst b;have:=aq d hn c;simp only[VR]at this;simp[*]
   simp_all
theorem dp{k:IntKind}{n:Int}{y:Nat}{c:BoundsCode}(b:0<=n)(a:n<=y):(Instr.sliceBound (.int k n) y c).run P w=.ok n.toNat w:=by simp[Instr.sliceBound,asIntOf,b,a]
theorem ii{b:Bool}{len cap:Nat}{h e:Option Operand}{c d:Option Int}(f:(h=none/\c=none)\/∃o k n,h=some o/\c=some n/\a.eval o=.int k n)(g:(e=none/\d=none)\/∃o k n,e=some o/\d=some n/\a.eval o=.int k n)(m:0<=c.getD 0)(p:c.getD 0<=d.getD len)(l:d.getD len<=cap)(r:len<=cap):
  (Instr.sliceBounds b len cap (h.map a.eval) (e.map a.eval) none).run P w=.ok ((c.getD 0).toNat,(d.getD len).toNat,cap) w:=by
 rcases f with⟨rfl,rfl⟩|⟨o1,t,v,rfl,rfl,i⟩<;>rcases g with⟨rfl,rfl⟩|⟨q,s,u,rfl,rfl,j⟩<;>simp only[arf,apT]at m p l;rfl;simp only[Instr.sliceBounds,apI,apl,j,ao7,apF,ao9];rw[dp aso aso];simp;simp only[Instr.sliceBounds,apI,apl,i,ao7,apF,ao9];rw[dp aso aso];simp;simp only[Instr.sliceBounds,apI,apl,i,j,ao7,apF,ao9];rw[dp aso aso];simp only[ao9];rw[dp aso aso];simp
theorem ajD{t:TypeId}{v:Value}{x:List UInt8}{i f:Option Operand}{c d:Option Int}(p:Rel w0 S0 E L w)(l:P.underlying t=some .string)(j:VR E (.str x) v)(g:(i=none/\c=none)\/∃o k n,i=some o/\c=some n/\a.eval o=.int k n)(h:(f=none/\d=none)\/∃o k n,f=some o/\d=some n/\a.eval o=.int k n)(m:0<=c.getD 0)(s:c.getD 0<=d.getD x.length)(q:d.getD x.length<=x.length):
  dz P w0 S0 E L (.str ((x.drop (c.getD 0).toNat).take ((d.getD x.length).toNat-(c.getD 0).toNat))) w (Instr.sliceAt t v (i.map a.eval) (f.map a.eval) none):=by
 simp only[VR]at j;subst j;have e:(ByteArray.mk ⟨x⟩).size=x.length:=rfl;refine .same p (v:=.string ⟨⟨(x.drop (c.getD 0).toNat).take ((d.getD x.length).toNat-(c.getD 0).toNat)⟩⟩) ?_ (by simp[VR]);have r:=ii (P:=P) (w:=w) (b:=false) g h m s q (ao0 _);simp only[Instr.sliceAt,Instr.slice,ao7,run_underlying l,ao9,e,arO,apj,if_false,r];simp only[apF];congr 2;apply ByteArray.ext;simp
theorem Zw{t:TypeId}{p:Array Field}{f:Nat}{a:Field}{x:AV}{v:Value}(m:Rel w0 S0 E L w)(s:P.underlying t=some (.struct p))(q:p.toList[f]?=some a)(r:(dr P a.type).getD 0≠0)(g:VR E x v):
  (∀i off,x=.ptr i off->dz P w0 S0 E L (.ptr i (off+a.offset)) w (Instr.fieldAt t v f))/\(∀l off,x=.iptr l off->dz P w0 S0 E L (.iptr l (off+a.offset)) w (Instr.fieldAt t v f)):=by
 obtain⟨n,k⟩:∃n,dr P a.type=some n:=by rcases h:dr P a.type with _|n;simp_all;simp
 simp only[k,apT]at r;rw[asa]at q;have d:∀b o,(Instr.fieldAt t (.pointer (some ⟨b,o,none⟩)) f).run P w=.ok (.pointer (some ⟨b,o+a.offset,none⟩)) w:=λb o=>by simp[Instr.fieldAt,run_underlying s,q,Instr.sureAddr,fieldPlace,cD k,r,Addr.add_mk]
 refine⟨λi off e=>?_,λl off e=>?_⟩<;>subst e<;>simp only[VR]at g;obtain⟨c,j,rfl⟩:=g;exact .same m (d _ _) ⟨c,j,by rw[ap7]⟩;obtain⟨b,o,rfl,j⟩:=g;exact .same m (d _ _) ⟨b,o,by rw[ap7],j⟩
theorem Zv{t:TypeId}{m:Array Field}{f sz:Nat}{g:Bool}{a:Field}{l:List AV}{v:Value}(k:Rel w0 S0 E L w)(j:P.underlying t=some (.struct m))(h:m.toList[f]?=some a)(n:m9 P a.type=some g)(q:dr P a.type=some sz)(o:VR E (.agg l) v):
  (g=true->a.offset+sz<=l.length->dz P w0 S0 E L (.agg ((l.drop a.offset).take sz)) w (Instr.field t v f))/\(g=false->a.offset<l.length->dz P w0 S0 E L (l.getD a.offset .undef) w (Instr.field t v f)):=by
 rw[asa]at h;obtain⟨vs,rfl,b⟩:=o;refine⟨λe c=>?_,λe c=>?_⟩<;>subst e;refine .same k (v:=.agg ((⟨vs⟩:Array Value).extract a.offset (a.offset+sz))) (by simp[Instr.field,run_underlying j,h,asAgg,part,Eh n,cD q]) ?_;refine⟨(vs.drop a.offset).take sz,asp,VRL.of_get (by simp[b.length]) λi x d=>?_⟩;have p:i<sz:=by have:=(aoZ.1 d).1;simp at this;omega
 rw[ap5 p,apY]at d⊢;exact b.get d;obtain⟨x,r,s⟩:=b.get (ao8 c);refine .same k (v:=x) (by simp[Instr.field,run_underlying j,h,asAgg,part,Eh n,r]) ?_;simp[*]
theorem Si{t e:TypeId}{sz:Nat}{x:AV}{v:Value}{j:IntKind}{k:Int}(m:Rel w0 S0 E L w)(u:P.underlying t=some (.slice e))(z:dr P e=some sz)(h:VR E x v)(y:0<=k):
  (∀l n c,x=.sl l n c->k<n->dz P w0 S0 E L (.iptr l (k.toNat*sz)) w (Instr.indexAt t v (.int j k))) /\
  (∀i off n c s,x=.lsl i off n c s->k<n->dz P w0 S0 E L (.ptr i (off+k.toNat*sz)) w (Instr.indexAt t v (.int j k))):=by
 have f:∀b o n c,k<(n:Nat)->(Instr.indexAt t (.slice (some ⟨b,o,none⟩) n c) (.int j k)).run P w=.ok (.pointer (some ⟨b,o+k.toNat*sz,none⟩)) w:=λb o n c a=>by simp[Instr.indexAt,asIntOf,run_underlying u,y,a,cD z,Addr.add_mk]
 refine⟨λl n c e a=>?_,λi off n c s e a=>?_⟩<;>subst e<;>simp only[VR]at h;obtain⟨p,k',rfl,r,q,g⟩:=h;rcases g with⟨rfl,rfl,rfl⟩|⟨b,o,rfl,g⟩;omega;exact .same m (f _ _ _ _ a) ⟨b,o,rfl,g⟩;obtain⟨c',A,d,r,rfl,q,g,h4⟩:=h;have:=q aso;subst this;exact .same m (f _ _ _ _ a) ⟨c',r,by rw[ap7]⟩
theorem XI{t e:TypeId}{sz n:Nat}{x:AV}{v:Value}{j:IntKind}{k:Int}(d:Rel w0 S0 E L w)(h:P.underlying t=some (.array n e))(p:dr P e=some sz)(c:VR E x v)(m:0<=k)(f:k<n):
  (∀l off,x=.iptr l off->dz P w0 S0 E L (.iptr l (off+k.toNat*sz)) w (Instr.indexAt t v (.int j k))) /\
  (∀i off,x=.ptr i off->dz P w0 S0 E L (.ptr i (off+k.toNat*sz)) w (Instr.indexAt t v (.int j k))):=by
 have a:∀b o,(Instr.indexAt t (.pointer (some ⟨b,o,none⟩)) (.int j k)).run P w=.ok (.pointer (some ⟨b,o+k.toNat*sz,none⟩)) w:=λb o=>by simp[Instr.indexAt,asIntOf,run_underlying h,m,f,cD p,Addr.add_mk,Instr.sureAddr]
 refine⟨λl off e=>?_,λi off e=>?_⟩<;>subst e<;>simp only[VR]at c;obtain⟨b,o,rfl,g⟩:=c;exact .same d (a _ _) ⟨b,o,by rw[ap7],g⟩;obtain⟨c',q,rfl⟩:=c;exact .same d (a _ _) ⟨c',q,by rw[ap7]⟩
theorem ahs{t:TypeId}{s:List UInt8}{v:Value}{j:IntKind}{k:Int}(f:Rel w0 S0 E L w)(e:P.underlying t=some .string)(c:VR E (.str s) v)(d:0<=k)(g:k<s.length):
  dz P w0 S0 E L (.int .u8 (s.getD k.toNat 0).toNat) w (Instr.index t v (.int j k)):=by
 simp only[VR]at c;subst c;have a:k.toNat<s.length:=aso;refine .same f (v:=.int .u8 (s[k.toNat]).toNat) ?_ (by simp[VR,a]);have:(ByteArray.mk ⟨s⟩)[k.toNat]?=some s[k.toNat]:=by have b:k.toNat<(ByteArray.mk ⟨s⟩).size:=a;rw[getElem?_pos (ByteArray.mk ⟨s⟩) k.toNat b];rfl
 simp[Instr.index,asIntOf,run_underlying e,d,this]
theorem acg{l:List AV}{i:Nat}{x:AV}{v:Value}(d:Rel w0 S0 E L w)(b:VR E (.tup l) v)(h:l[i]?=some x):dz P w0 S0 E L x w (Instr.extract v i):=by obtain⟨vs,rfl,a⟩:=b;obtain⟨y,e,c⟩:=a.get h;exact .same d (v:=y) (by simp[Instr.extract,e]) c
end
section
variable {P:Program}{w0:World}{S0:SB}{E:Env}{L:List Blk}{w:World}{T:Tm}{a:Act}
abbrev V3(a:Act)(x:Option Operand)(r:Option Int):Prop:=(x=none/\r=none)\/∃o k n,x=some o/\r=some n/\a.eval o=.int k n
theorem acd{t e:TypeId}{v:Value}{j i:Option Operand}{d c:Option Int}{sz:Nat}(m:Rel w0 S0 E L w)(l:P.underlying t=some (.slice e))(n:dr P e=some sz)(h:VR E .nilsl v)(g:V3 a j d)(f:V3 a i c)(o:d.getD 0=0)(p:c.getD 0=0):dz P w0 S0 E L .nilsl w (Instr.sliceAt t v (j.map a.eval) (i.map a.eval) none):=by
 simp only[VR]at h;subst h;have k:=ii (P:=P) (w:=w) (b:=true) (len:=0) (cap:=0) g f aso (by simp only[Int.natCast_zero];omega) (by simp only[Int.natCast_zero];omega) (ao0 _);refine .same m (v:=.slice none 0 0) ?_ (by simp[VR]);simp only[Instr.sliceAt,Instr.slice,ao7,run_underlying l,ao9,k,cD n,apF];simp[*]
theorem Zu{t e:TypeId}{v:Value}{z s:Option Operand}{f g:Option Int}{sz n:Nat}{x:AV}(F:Rel w0 S0 E L w)(H:P.underlying t=some (.slice e))(I:dr P e=some sz)(B:VR E x v)(u:V3 a z f)(y:V3 a s g)(K:0<=f.getD 0)(M:f.getD 0<=g.getD n):
  (∀ l cap,x=.sl l n cap->g.getD n<=n->dz P w0 S0 E L (.sl ((l.drop ((f.getD 0).toNat * sz)).take (((g.getD n).toNat - (f.getD 0).toNat) * sz)) ((g.getD n).toNat - (f.getD 0).toNat) (cap.map (· - (f.getD 0).toNat))) w
   (Instr.sliceAt t v (z.map a.eval) (s.map a.eval) none)) /\
  (∀ i off cap,x=.lsl i off n cap sz->g.getD n<=((cap.getD n:Nat):Int)->dz P w0 S0 E L (.lsl i (off+(f.getD 0).toNat * sz) ((g.getD n).toNat - (f.getD 0).toNat) (cap.map (· - (f.getD 0).toNat)) sz) w
   (Instr.sliceAt t v (z.map a.eval) (s.map a.eval) none)):=by
 have j:∀p,n=0->g.getD n<=n->(Instr.sliceAt t (.slice p 0 0) (z.map a.eval) (s.map a.eval) none).run P w=.ok (.slice p 0 0) w:=λp O h=>by
  subst O;have C:=ii (P:=P) (w:=w) (b:=true) (len:=0) (cap:=0) u y K M h (ao0 _);simp only[Instr.sliceAt,Instr.slice,ao7,run_underlying H,ao9,C,cD I,apF]
  grind
 have r:∀b o c,n<=c->g.getD n<=c->(Instr.sliceAt t (.slice (some ⟨b,o,none⟩) n c) (z.map a.eval) (s.map a.eval) none).run P w =
   .ok (.slice (some ⟨b,if c=(f.getD 0).toNat then o else o+(f.getD 0).toNat*sz,none⟩) ((g.getD n).toNat-(f.getD 0).toNat) (c-(f.getD 0).toNat)) w:=λb o c R h=>by
  have C:=ii (P:=P) (w:=w) (b:=true) (len:=n) (cap:=c) u y K M h R;simp only[Instr.sliceAt,Instr.slice,ao7,run_underlying H,ao9,C,cD I,apF];split<;>simp[Addr.add_mk]
 refine⟨λl cap J h=>?_,λi off cap J h=>?_⟩<;>subst J<;>simp only[VR]at B;obtain⟨p,c,rfl,g1,G,g3⟩:=B;rcases g3 with⟨rfl,rfl,rfl⟩|⟨b,o,rfl,g3⟩;have S:(f.getD 0).toNat=0:=aso;have z2:(g.getD ((0:Nat):Int)).toNat=0:=aso;refine .same F (j p rfl h) ?_;rw[S,z2];refine⟨p,0,rfl,ao0 _,λk m=>?_,.inl ⟨rfl,rfl,asp⟩⟩;simp_all;refine .same F (r b o c g1 aso) ?_;refine⟨_,_,rfl,aso,λk m=>?_,.inr ⟨b,_,rfl,?_⟩⟩;cases cap with
 |none=>simp at m
 |some q=>simp at m;rw[G q rfl];exact m
 by_cases N:c=(f.getD 0).toNat;have:(g.getD n).toNat-(f.getD 0).toNat=0:=aso;rw[this];simp[VRC];rw[if_neg N];exact(g3.drop _).take _;obtain⟨c,A,d,T,rfl,g1,G,g3,g4⟩:=B;have D:g.getD n<=A:=by
  cases cap with
  |none=>simp at h;omega
  |some q=>simp at h;rw[g3 q rfl];exact h
 refine .same F (r c.blk d A G D) ?_;refine⟨c,_,_,T,rfl,λQ=>?_,aso,λk m=>?_,?_⟩
 grind
 cases cap with
 |none=>simp at m
 |some q=>simp at m;rw[g3 q rfl];exact m
 have U:(f.getD 0).toNat*sz+(A-(f.getD 0).toNat)*sz=A*sz:=by rw[<- ap8];congr 1;omega
 omega
theorem abj{t e:TypeId}{v:Value}{q:Option Operand}{f k:Operand}{d:Option Int}{h m:Int}{C F:IntKind}{sz n:Nat}{l:List AV}{cap:Option Nat}(x:Rel w0 S0 E L w)(r:P.underlying t=some (.slice e))(s:dr P e=some sz)(z:VR E (.sl l n cap) v)(i:V3 a q d)(j:a.eval f=.int C h)(g:a.eval k=.int F m)(D:0<=d.getD 0)(G:d.getD 0<=h)(H:h<=n)(I:h<=m)(h4:m<=n):
  dz P w0 S0 E L (.sl ((l.drop ((d.getD 0).toNat*sz)).take ((h.toNat-(d.getD 0).toNat)*sz)) (h.toNat-(d.getD 0).toNat) (some (m.toNat-(d.getD 0).toNat))) w
   (Instr.sliceAt t v (q.map a.eval) (some (a.eval f)) (some (a.eval k))):=by
 obtain⟨p,c,rfl,g1,J,g3⟩:=z;have u:(Instr.sliceBounds true n c (q.map a.eval) (some (a.eval f)) (some (a.eval k))).run P w=.ok ((d.getD 0).toNat,h.toNat,m.toNat) w:=by simp only[Instr.sliceBounds,j,g,ao7,if_true];rw[dp aso aso];simp only[ao9,ao7];rw[dp aso aso];simp only[ao9];rcases i with⟨rfl,rfl⟩|⟨o1,K,M,rfl,rfl,A⟩;simp;simp only[apT]at D G;simp only[apl,A,ao7];rw[dp aso aso];simp
 rcases g3 with⟨rfl,rfl,rfl⟩|⟨b,o,rfl,g3⟩;have B:(d.getD 0).toNat=0:=aso;have z2:h.toNat=0:=aso;have z3:m.toNat=0:=aso;refine .same x (v:=.slice p 0 0) ?_ ?_;simp only[Instr.sliceAt,Instr.slice,ao7,run_underlying r,ao9,u,cD s,apF];simp[*];simp only[VR];rw[B,z2,z3]
 grind
 refine .same x (v:=.slice (some ⟨b,if m.toNat=(d.getD 0).toNat then o else o+(d.getD 0).toNat*sz,none⟩) (h.toNat-(d.getD 0).toNat) (m.toNat-(d.getD 0).toNat)) ?_ ?_;simp only[Instr.sliceAt,Instr.slice,ao7,run_underlying r,ao9,u,cD s,apF];split<;>simp[Addr.add_mk];refine⟨_,_,rfl,aso,asp,.inr ⟨b,_,rfl,?_⟩⟩;by_cases y:m.toNat=(d.getD 0).toNat;have:h.toNat-(d.getD 0).toNat=0:=aso;rw[this];simp[VRC];rw[if_neg y];exact(g3.drop _).take _
theorem afa{t e:TypeId}{v:Value}{p:Option Operand}{f o:Operand}{b:Option Int}{h m:Int}{B F:IntKind}{sz n i off:Nat}{cap:Option Nat}(C:Rel w0 S0 E L w)(s:P.underlying t=some (.slice e))(u:dr P e=some sz)(r:VR E (.lsl i off n cap sz) v)(k:V3 a p b)(l:a.eval f=.int B h)(j:a.eval o=.int F m)(D:0<=b.getD 0)(G:b.getD 0<=h)(K:h<=m)(h4:m<=((cap.getD n:Nat):Int)):
  dz P w0 S0 E L (.lsl i (off+(b.getD 0).toNat*sz) (h.toNat-(b.getD 0).toNat) (some (m.toNat-(b.getD 0).toNat)) sz) w
   (Instr.sliceAt t v (p.map a.eval) (some (a.eval f)) (some (a.eval o))):=by
 simp only[VR]at r;obtain⟨c,g,d,H,rfl,g1,M,g3,g4⟩:=r;have y:m<=g:=by
  cases cap with
  |none=>simp at h4;omega
  |some q=>simp at h4;rw[g3 q rfl];exact h4
 have x:(Instr.sliceBounds true n g (p.map a.eval) (some (a.eval f)) (some (a.eval o))).run P w=.ok ((b.getD 0).toNat,h.toNat,m.toNat) w:=by simp only[Instr.sliceBounds,l,j,ao7,if_true];rw[dp aso aso];simp only[ao9,ao7];rw[dp aso aso];simp only[ao9];rcases k with⟨rfl,rfl⟩|⟨o1,N,O,rfl,rfl,z⟩;simp;simp only[apT]at D G;simp only[apl,z,ao7];rw[dp aso aso];simp
 refine .same C (v:=.slice (some ⟨c.blk,if m.toNat=(b.getD 0).toNat then d else d+(b.getD 0).toNat*sz,none⟩) (h.toNat-(b.getD 0).toNat) (m.toNat-(b.getD 0).toNat)) ?_ ?_;simp only[Instr.sliceAt,Instr.slice,ao7,run_underlying s,ao9,x,cD u,apF];split<;>simp[Addr.add_mk];simp only[VR];refine⟨c,_,_,H,rfl,λA=>?_,aso,asp,?_⟩
 grind
 have J:(b.getD 0).toNat*sz+(m.toNat-(b.getD 0).toNat)*sz=m.toNat*sz:=by rw[<- ap8];congr 1;omega
 have I:m.toNat*sz<=g*sz:=ap6 _ aso;omega
theorem adI{t e:TypeId}{v:Value}{j h:Option Operand}{d f:Option Int}{sz n:Nat}{x:AV}(p:Rel w0 S0 E L w)(A:P.underlying t=some (.array n e))(C:dr P e=some sz)(k:VR E x v)(m:V3 a j d)(q:V3 a h f)(G:0<=d.getD 0)(I:d.getD 0<=f.getD n)(B:f.getD n<=n):
  (∀ l off,x=.iptr l off->dz P w0 S0 E L (.sl ((l.drop (off+(d.getD 0).toNat * sz)).take (((f.getD n).toNat - (d.getD 0).toNat) * sz)) ((f.getD n).toNat - (d.getD 0).toNat) (some (n - (d.getD 0).toNat))) w
   (Instr.sliceAt t v (j.map a.eval) (h.map a.eval) none)) /\
  (∀ i off l,x=.ptr i off->L[i]?=some (.cells l)->off+n * sz<=l.length->dz P w0 S0 E L (.lsl i (off+(d.getD 0).toNat * sz) ((f.getD n).toNat - (d.getD 0).toNat) (some (n - (d.getD 0).toNat)) sz) w
   (Instr.sliceAt t v (j.map a.eval) (h.map a.eval) none)):=by
 have g:∀b o,(Instr.sliceAt t (.pointer (some ⟨b,o,none⟩)) (j.map a.eval) (h.map a.eval) none).run P w =
   .ok (.slice (some ⟨b,if n=(d.getD 0).toNat then o else o+(d.getD 0).toNat*sz,none⟩) ((f.getD n).toNat-(d.getD 0).toNat) (n-(d.getD 0).toNat)) w:=λb o=>by
  have D:=ii (P:=P) (w:=w) (b:=false) (len:=n) (cap:=n) m q G I B (ao0 _);simp only[Instr.sliceAt,ao7,run_underlying A,ao9,Instr.sureAddr,D,cD C,apF];split<;>simp[Addr.add_mk]
 refine⟨λl off r=>?_,λi off l r H z=>?_⟩<;>subst r<;>simp only[VR]at k;obtain⟨b,o,rfl,g3⟩:=k;refine .same p (g b _) ?_;refine⟨_,_,rfl,aso,asp,.inr ⟨b,_,rfl,?_⟩⟩;by_cases y:n=(d.getD 0).toNat;have:(f.getD n).toNat-(d.getD 0).toNat=0:=aso;rw[this];simp[VRC];rw[if_neg y,ap7];exact(g3.drop _).take _;obtain⟨c,u,rfl⟩:=k;obtain⟨c',cs,ty,fr,s,J,O,M,K,Q⟩:=p.blk i _ H;rw[u]at s;cases s;refine .same p (g c.blk _) ?_;refine⟨c,_,_,u,rfl,λF=>?_,aso,asp,?_⟩
 grind
 have N:(d.getD 0).toNat*sz+(n-(d.getD 0).toNat)*sz=n*sz:=by rw[<- ap8];congr 1;omega
 omega
theorem kp(z:Array Value)(n:Nat):(Builtin.zeroCells z n).size=n*z.size:=by simp[Builtin.zeroCells]
theorem Rel.draw(a:Rel w0 S0 E L w)(n:Nat):Rel w0 S0 E L {w with drawn:=n}:=
 ⟨a.mem,λi k b=>bZ.world (λ_ _=>rfl) (λ_ _ _ _=>rfl) (a.blk i k b),a.fresh,a.own,a.inj,a.tkfresh,a.tkown,a.tkloc,a.tkinj,a.frame,a.size,a.os,a.tape,a.output,a.glob,a.gsz⟩
theorem kl{t u e ty:TypeId}{sz n m c:Nat}{base:Option Addr}{x:Value}{cs:List Value}(g:P.underlying t=some (.slice e))(d:(∃f,P.underlying u=some (.slice f))\/P.underlying u=some .string)(i:dr P e=some sz)(j:(Builtin.lenOf x).run P w=.ok n w)(h:(Builtin.firstCells sz n x).run P w=.ok ⟨cs⟩ w)(a:m+n<=c):
  (Builtin.append_ #[t,u] ty #[.slice base m c,x]).run P w=match base with
   |none=>.ok (.slice base (m+n) c) w
   |some b=>((storeCells (b.add (m*sz)) cs).run P w).andThen λ_ w'=>.ok (.slice base (m+n) c) w':=by
 unfold Builtin.append_;rcases d with⟨f,d⟩|d
 all_goals
  simp only[arg,apU,ap1,ao7,run_underlying g,run_underlying d,ao9,apF,cD i,apj,if_false,j,if_pos a,aru,if_true,h];cases base with
  |none=>simp
  |some b=>simp
theorem wm{t u e ty:TypeId}{sz b n m c:Nat}{base:Option Addr}{x z:Value}{cs os:List Value}(F:P.underlying t=some (.slice e))(k:(∃y,P.underlying u=some (.slice y))\/P.underlying u=some .string)(C:dr P e=some sz)(s:aab P e=some b)(D:∀W,(zeroValue e).run P W=.ok z W)(o:z.cells.size=sz)(I:(Builtin.lenOf x).run P w=.ok n w)(B:(Builtin.firstCells sz n x).run P {w with drawn:=w.drawn+1}=.ok ⟨cs⟩ {w with drawn:=w.drawn+1})(E:(Builtin.firstCells sz m (.slice base m c)).run P {w with drawn:=w.drawn+1}=.ok ⟨os⟩ {w with drawn:=w.drawn+1})(l:c<m+n)(f:(m+n)*b<=140737488355328)(r:m+n<=140737488355328):
  ∃a rest,m+n<=a/\rest.length=(a-(m+n))*sz/\(Builtin.append_ #[t,u] ty #[.slice base m c,x]).run P w =
   .ok (.slice (some ⟨w.heap.size,0,none⟩) (m+n) a) {w with heap:=w.heap.push (.cells ⟨(os++cs)++rest⟩ e),drawn:=w.drawn+1}:=by
 obtain⟨a,d⟩:∃a,a=(Question.appendCap (m+n) c e).cut (w.tape w.drawn (.appendCap (m+n) c e)):=⟨_,rfl⟩;have q:m+n<=a:=by rw[d];simp[Question.cut]
 refine⟨a,(Builtin.zeroCells z.cells (a-(m+n))).toList,q,by simp[kp,o],?_⟩;obtain⟨i,A,p⟩:∃i,P.info? e=some i/\i.bytes=b:=by unfold aab at s;simpa using s
 have h:∀W,(typeInfo e).run P W=.ok i W:=λW=>by simp[typeInfo,A]
 have v:=growslice_fits (need:=m+n) (old:=c) (bytes:=b) l f;have g:IntKind.i64.max=9223372036854775807:=by decide
 have H:¬(((m+n:Nat):Int)>IntKind.i64.max/\(False\/i.bytes=0)):=by rw[g];omega
 have G:¬(Builtin.nextslicecap (m+n) c*i.bytes>2^48):=by rw[p];omega
 unfold Builtin.append_;rcases k with⟨y,k⟩|k
 all_goals
  simp only[arg,apU,ap1,ao7,run_underlying F,run_underlying k,ao9,apF,cD C,apj,if_false,I,if_neg (show ¬(m+n<=c)by omega),h,aru,if_true];simp only[if_neg H,if_neg G,h,apF,ao9,ao7,run_choose,Question.forced,apj,if_false,<- d,run_askRoom,E,B,D,newRow,run_newObj];have j:((⟨os⟩:Array Value)++(⟨cs⟩:Array Value)++Builtin.zeroCells z.cells (a-(m+n)))=⟨(os++cs)++(Builtin.zeroCells z.cells (a-(m+n))).toList⟩:=by simp
  rw[j]
theorem ajI{own:Nat}{t u e ty:TypeId}{sz bk:Nat}{z:List AV}{x y av:AV}{p v:Value}{c:Prop}{L':List Blk}(D:Rel w0 S0 E L w)(ht:P.underlying t=some (.slice e))(hu:(∃e',P.underlying u=some (.slice e'))\/P.underlying u=some .string)(hs:dr P e=some sz)(hb:aab P e=some bk)(hz:zOf P e=some z)(cc:z.length=sz)(hx:VR E x p)(hy:VR E y v)(h:app own sz bk L x y=some (c,av,L'))(hc:c):
  dz P w0 S0 E L' av w (Builtin.append_ #[t,u] ty #[p,v]):=by
 have F:Rel w0 S0 E L {w with drawn:=w.drawn+1}:=D.draw _;obtain⟨zv,a_,c0,_⟩:=SN (E:=E) hz;have a9:zv.cells.size=sz:=by have:=c0.length;simpa[cc]using this
 unfold app at h;split at h;cases h;rename_i c1 g n H;have fresh:∀(q:List AV) (os cs:List Value) (m B:Nat) (rest:List Value),VRL E q os->VRL E g cs->q.length=m*sz->g.length=n*sz->m+n<=B->rest.length=(B-(m+n))*sz->∀(L0:List Blk),Rel w0 S0 E L0 {w with drawn:=w.drawn+1} ->
   (∃E',E.le E'/\VR E' (.lsl L0.length 0 (m+n) none sz) (.slice (some ⟨w.heap.size,0,none⟩) (m+n) B)/\Rel w0 S0 E' (L0++[.cells (q++g)]) {w with heap:=w.heap.push (.cells ⟨(os++cs)++rest⟩ e),drawn:=w.drawn+1}):=by
  intro q os cs m B rest ho hn cm cu bx hr L0 cx;have bn:=ho.append hn
  .obtain⟨E',N,X,r3⟩:=tq cx bn rest e (0,0) asp;refine⟨E',N,?_,r3⟩;simp only[VR];refine⟨_,B,0,X,rfl,asp,bx,asp,?_⟩;have U:=ho.length;have O:=hn.length;have:(m+n)*sz+(B-(m+n))*sz=B*sz:=by rw[<- ap8];congr 1;omega
   grind
 have grown:∀(q:List AV) (os cs:List Value) (m B:Nat) (rest:List Value),VRL E q os->VRL E g cs->q.length=m*sz->g.length=n*sz->m+n<=B->rest.length=(B-(m+n))*sz ->
   ∃E',E.le E'/\Rel w0 S0 E' L {w with heap:=w.heap.push (.cells ⟨(os++cs)++rest⟩ e),drawn:=w.drawn+1}/\VRC E' (q++AV.frzL g) w.heap.size 0/\E'.tok=E.tok /\
    ∀i,(L++[Blk.dead])[i]?≠none->ahS w0 S0 E' L {w with heap:=w.heap.push (.cells ⟨(os++cs)++rest⟩ e),drawn:=w.drawn+1} i (m+n) sz (some ⟨w.heap.size,0,B*sz⟩):=by
  intro q os cs m B rest ho hn cm cu bx hr;have ct:=VRL.frz _ _ hn;have bn:=ho.append ct;obtain⟨E',N,X,r3,r4,r5,r6⟩:=F.imm' (os++cs) e (q++AV.frzL g) bn rest (0,0);have U:=ho.length;have O:=hn.length;have h4:(m+n)*sz+(B-(m+n))*sz=B*sz:=(by rw[<- ap8];congr 1;omega);have S:(m+n)*sz=m*sz+n*sz:=ap8 _ _ _;refine⟨E',N,X,r3,r5,λi _ k I=>?_⟩;cases I;refine⟨⟨_,e,(0,0),by simp;rfl,?_,asp⟩,λo c2=>r6 o (by simp only[apd];omega),.inr D.size,λj k' c C hl cB=>?_,λj n' c4 t' k' _ C cb bo=>?_⟩
  .simp only[List.size_toArray,apd];omega
  .have:=D.loc_lt C hl (by rw[<- r4];exact cB);simp only;omega
  .have:=D.tok_lt C (by rw[<- r5];exact cb) bo;simp only;omega
 have keep:∀{i:Nat}{k:Blk},L[i]?=some k->(L++[Blk.dead])[i]?≠none:=λ{i k} hi=>by have:=(aoZ.1 hi).1;simp;omega
 have an:(AV.frzL g).length=g.length:=AV.frzL_length _;split at h;rename_i l m k;have G:=hx;simp only[VR]at G;obtain⟨Y,c',rfl,g1,g2,g3⟩:=G;have:=g2 k rfl;subst this;by_cases ap:own=2;subst ap;simp only[reduceIte,Nat.reduceEqDiff]at h;split at h;rename_i J;subst J;simp only[ao1,apf]at h;obtain⟨rfl,rfl,rfl⟩:=h;obtain⟨U,O,cs,S,h4⟩:=bW (P:=P) D hy H hc.1;have:cs=[]:=by have:=S.length;simp at O;simpa[O]using this
 subst this;refine .same D (v:=.slice Y m c') ?_ hx;rw[kl (ty:=ty) ht hu hs U h4 aso];cases Y<;>simp[storeCells];rename_i J;simp only[ao1,apf,aah]at h;obtain⟨rfl,rfl,rfl⟩:=h;obtain⟨k1,k2,Z,k4,k5⟩:=hc;subst k2;obtain⟨U,O,_,_,_⟩:=bW (P:=P) D hy H k1;obtain⟨_,_,cs,S,h4⟩:=bW (P:=P) F hy H k1;obtain⟨_,_,os,q3,q4⟩:=bW (P:=P) (sz:=sz) (c:=l.length=m*sz) (l:=l) (n:=m) F hx rfl Z;obtain⟨B,rest,j1,j2,j3⟩:=wm (P:=P) (w:=w) (ty:=ty) (m:=m) (c:=m) (base:=Y) (os:=os) ht hu hs hb a_ a9 U h4 q4 aso k4 k5;obtain⟨E1,a1,a2,a3⟩:=fresh l os cs m B rest q3 S Z O j1 j2 L F;exact⟨E1,_,_,j3,a1,a2,a3⟩;simp only[if_neg ap]at h;have cw:c1/\m=c'/\l.length=m*sz/\(m+n)*bk<=140737488355328/\m+n<=140737488355328:=by split at h<;>simp only[ao1,apf]at h<;>obtain⟨rfl,_⟩:=h<;>exact hc
 obtain⟨k1,k2,Z,k4,k5⟩:=cw;subst k2;obtain⟨U,O,M,ad,a8⟩:=bW (P:=P) D hy H k1;have ai:(m+n)*sz=m*sz+n*sz:=ap8 _ _ _;rcases aqp n with J|J;subst J;have T:g=[]:=by simpa using O
 subst T;have:M=[]:=by have:=ad.length;simpa using this
 subst this;have r:(Builtin.append_ #[t,u] ty #[.slice Y m m,v]).run P w=.ok (.slice Y m m) w:=by rw[kl (ty:=ty) ht hu hs U a8 aso];cases Y<;>simp[storeCells]
 split at h<;>simp only[ao1,apf]at h<;>obtain⟨rfl,rfl,rfl⟩:=h;obtain⟨N,X⟩:=D.addtok (n:=m+0) (sz:=sz) (lc:=none) WP;refine⟨_,_,_,r,N,?_,X⟩;simp only[VR,AV.frzL,apG,aqe];refine⟨Y,m,rfl,ao0 _,Z,g3.imp id λ⟨b,o,q1,q2⟩=>⟨b,o,q1,VRC.mono N _ _ _ q2⟩,⟨m+0,sz,none⟩,asp,asp,λ_=>⟨rfl,λ_=>rfl,asp⟩⟩;refine .same D r ?_;simp only[VR,AV.frzL,apG,aqe];exact⟨Y,m,rfl,ao0 _,asp,g3⟩;obtain⟨_,_,cs,S,h4⟩:=bW (P:=P) F hy H k1;obtain⟨_,_,os,q3,q4⟩:=bW (P:=P) (sz:=sz) (c:=l.length=m*sz) (l:=l) (n:=m) F hx rfl Z;obtain⟨B,rest,j1,j2,j3⟩:=wm (P:=P) (w:=w) (ty:=ty) (m:=m) (c:=m) (base:=Y) (os:=os) ht hu hs hb a_ a9 U h4 q4 aso k4 k5;obtain⟨E2,b1,b2,b3,b5,b4⟩:=grown l os cs m B rest q3 S Z O j1 j2;split at h<;>simp only[ao1,apf]at h<;>obtain⟨rfl,rfl,rfl⟩:=h;obtain⟨N,X⟩:=b2.addtok (n:=m+n) (sz:=sz) (b4 L.length asp);refine⟨_,_,_,j3,b1.trans N,?_,X⟩;simp only[VR];exact⟨_,B,rfl,j1,by simp only[apd,an];omega,.inr ⟨_,0,rfl,VRC.mono N _ _ _ b3⟩,⟨m+n,sz,some ⟨w.heap.size,0,B*sz⟩⟩,asp,asp,λ_=>⟨rfl,asp,λk I=>by cases I;exact⟨rfl,ao0 _⟩⟩⟩;refine⟨E2,_,_,j3,b1,?_,b2⟩;simp only[VR];exact⟨_,B,rfl,j1,asp,.inr ⟨_,0,rfl,b3⟩⟩;rename_i l m i s;split at h;rename_i Q s' V;simp only[ao1,apf]at h;obtain⟨rfl,rfl,rfl⟩:=h;obtain⟨k1,R,rfl,rfl,rfl,k4,k5⟩:=hc;obtain⟨cp,Z⟩:=hx.gsl_sl;have G:=hx;simp only[VR]at G;obtain⟨Y,K,rfl,g1,_,g3,tk,g4,g5,g6⟩:=G;obtain⟨c3,e1,e2,e3,e4⟩:=D.blk i _ V;rw[g4]at e1;cases e1;obtain⟨g7,g8,g9⟩:=g6 e2.symm;obtain⟨U,O,M,ad,a8⟩:=bW (P:=P) D hy H k1;have ai:(Q+n)*s'=Q*s'+n*s':=ap8 _ _ _;rcases aqp n with J|J;subst J;have T:g=[]:=by simpa using O
 subst T;have:M=[]:=by have:=ad.length;simpa using this
 subst this;have r:(Builtin.append_ #[t,u] ty #[.slice Y Q K,v]).run P w=.ok (.slice Y Q K) w:=by rw[kl (ty:=ty) ht hu hs U a8 aso];cases Y<;>simp[storeCells]
 refine .same ?_ r ?_;have:L.set i (.spare (Q+0) s')=L:=by apply aqZ;intro j;rw[apB];split;rename_i e;subst e;rw[V];have:=(aoZ.1 V).1;simp[this];rfl
 rw[this];exact D;simpa[AV.frzL]using hx;by_cases A:Q+n<=K;have b0:∃k,tk.loc=some k:=by rcases hq:tk.loc with _|k;have:=g8 hq;omega;exact⟨k,rfl⟩
 obtain⟨k,I⟩:=b0;obtain⟨rfl,ck⟩:=g9 k I;obtain⟨cn,cy,cd,b1,b2,b3⟩:=e4 k I;have a4:=ad.length;have ci:(Q+n)*s'<=K*s':=ap6 _ A;obtain⟨w',W,N,X,r3,r4,r5,r6,r7,r8,r9⟩:=jr (P:=P) (b:=k.blk) (ty:=cy) (fr:=cd) M w cn (0+Q*s') 0 b1 (λv hv=>by obtain⟨j,C⟩:=aqN.1 hv;have al:j<g.length:=(by have:=(aoZ.1 C).1;omega);obtain⟨y,h7,h8⟩:=ad.get (ao8 al);rw[C]at h7;cases h7;exact h8.one (apa.1 R _ (apZ al))) aso (λo h7 h8=>b3 o aso aso)
 have r:(Builtin.append_ #[t,u] ty #[.slice (some ⟨k.blk,0,none⟩) Q K,v]).run P w=.ok (.slice (some ⟨k.blk,0,none⟩) (Q+n) K) w':=by rw[kl (ty:=ty) ht hu hs U a8 A];simp only[Addr.add_mk,N,ao9]
 obtain⟨E',q1,q2,q3,q4⟩:=D.tokwrite (w':=w') V g4 I (n:=Q+n) aso b1 X r3 r4 r5 r6 r7 r8 (λo ho=>by rw[r9,if_neg aso]);refine⟨E',_,_,r,q1,?_,q2⟩;simp only[VR];refine⟨_,K,rfl,A,by simp only[apd,an];omega,.inr ⟨k.blk,0,rfl,VRC.of_get λj a ha=>?_⟩,_,q3,ao0 _,λ_=>⟨rfl,asp,λk' bo=>by cases bo;exact⟨rfl,ck⟩⟩⟩;rw[aqn]at ha;split at ha;rename_i C;rcases g3 with⟨_,_,e⟩|⟨b,o,e,g3⟩;subst e;simp at C;cases e;obtain⟨y,f1,f2⟩:=(VRC.mono q1 _ _ _ g3).get ha;exact⟨y,f1,f2⟩;rename_i C;obtain⟨y,f1,f2⟩:=(VRL.frz _ _ ad).get ha;have cr:=(aoZ.1 ha).1;refine⟨y,?_,VR.mono q1 _ _ f2⟩;rw[q4 _ aso aso,r9,if_pos aso,<- f1];congr 1;omega;obtain⟨_,_,cs,S,h4⟩:=bW (P:=P) F hy H k1;obtain⟨_,_,os,q3,q4⟩:=bW (P:=P) (sz:=s') (c:=l.length=Q*s') (l:=l) (n:=Q) F cp rfl Z;obtain⟨B,rest,j1,j2,j3⟩:=wm (P:=P) (w:=w) (ty:=ty) (m:=Q) (c:=K) (base:=Y) (os:=os) ht hu hs hb a_ a9 U h4 q4 aso k4 k5;obtain⟨E2,b1,b2,b3,b5,b4⟩:=grown l os cs Q B rest q3 S Z O j1 j2;obtain⟨N,X⟩:=b2.settok (n:=Q+n) (sz:=s') ⟨_,_,V⟩ (λt2 a6=>by rw[b5,g4]at a6;cases a6;omega) (b4 i (keep V))
 refine⟨_,_,_,j3,b1.trans N,?_,X⟩;simp only[VR];exact⟨_,B,rfl,j1,by simp only[apd,an];omega,.inr ⟨_,0,rfl,VRC.mono N _ _ _ b3⟩,⟨Q+n,s',some ⟨w.heap.size,0,B*s'⟩⟩,asp,asp,λ_=>⟨rfl,asp,λk I=>by cases I;exact⟨rfl,ao0 _⟩⟩⟩;cases h;rename_i i off m cap s;split at h;rename_i l V;split at h;rename_i cf;subst cf;by_cases ar:own=4;rw[if_pos ar]at h;rcases cap with _|ch;cases h;simp only[ao1,apf]at h;obtain⟨rfl,rfl,rfl⟩:=h;obtain⟨k1,R,k2,Z⟩:=hc;have G:=hx;simp only[VR]at G;obtain⟨f,K,d,g0,rfl,g1,g2,g3,g4⟩:=G;have b_:=g3 ch rfl;subst b_;obtain⟨U,O,cs,S,h4⟩:=bW (P:=P) D hy H k1;have ai:(m+n)*s=m*s+n*s:=ap8 _ _ _;have a4:=S.length;obtain⟨w',N,X⟩:∃w',(storeCells ((⟨f.blk,d,none⟩:Addr).add (m*s)) cs).run P w=.ok () w'/\Rel w0 S0 E (L.set i (.cells (d6 l (off+m*s) g))) w':=by
  by_cases bl:K=0;have J:n=0:=aso;subst J;have T:g=[]:=apK.1 (by rw[O];simp);subst T;have a5:cs=[]:=(by simpa using a4);subst a5;refine⟨w,by simp[storeCells],?_⟩;have e1:d6 l (off+m*s) []=l:=(by simp[d6]);rw[e1];have e2:L.set i (.cells l)=L:=by apply aqZ;intro j;rw[apB];split;rename_i e;subst e;rw[V];have:=(aoZ.1 V).1;simp[this];rfl
  rw[e2];exact D;have hd:=g1 bl;subst hd;rw[Addr.add_mk,ap7];exact S4 (P:=P) (off:=off+m*s) D V g0 S (λx hx=>apa.1 R x hx) (by rw[O];omega)
 have r:(Builtin.append_ #[t,u] ty #[.slice (some ⟨f.blk,d,none⟩) m K,v]).run P w=.ok (.slice (some ⟨f.blk,d,none⟩) (m+n) K) w':=by rw[kl (ty:=ty) ht hu hs U h4 Z];simp only[N,ao9]
 refine⟨E,_,w',r,.refl E,?_,X⟩;simp only[VR];exact⟨f,K,d,g0,rfl,g1,Z,g3,g4⟩;rw[if_neg ar]at h;simp only[ao1,apf,aah]at h;obtain⟨rfl,rfl,rfl⟩:=h;obtain⟨k1,R,k2,Z,k4⟩:=hc;have G:=hx;simp only[VR]at G;obtain⟨f,K,d,g0,rfl,g1,g2,g3,g4⟩:=G;obtain⟨U,O,cs,S,h4⟩:=bW (P:=P) D hy H k1;by_cases A:m+n<=K;have bb:((l.drop off).take (m*s)).length=m*s:=by simp;omega
 obtain⟨c5,M,bt,fr,b1,b2,b3,b4,b5,b6⟩:=D.blk i _ V;rw[g0]at b1;cases b1;have bi:=D.own i _ f V rfl g0;have a4:=S.length;have ai:(m+n)*s=m*s+n*s:=ap8 _ _ _;have ci:(m+n)*s<=K*s:=ap6 _ A;have hd:(some (⟨f.blk,d,none⟩:Addr)).map (·.add (m*s))=some ⟨f.blk,d+m*s,none⟩:=by simp[Addr.add_mk]
 obtain⟨w',W,N,X,r3,r4,r5,r6,r7,r8,r9⟩:∃w' W,(storeCells ((⟨f.blk,d,none⟩:Addr).add (m*s)) cs).run P w=.ok () w'/\w'.heap.size=w.heap.size/\(∀k,k≠f.blk->w'.heap[k]?=w.heap[k]?)/\w'.os=w.os/\w'.tape=w.tape/\w'.output=w.output /\
   w'.heap[f.blk]?=some (.cells W bt fr)/\W.size=M.size/\∀k,W[k]?=if f.off+off+m*s<=k/\k<f.off+off+m*s+cs.length then cs[k-(f.off+off+m*s)]? else M[k]?:=by
  by_cases bl:K=0
  .have a5:cs=[]:=by
    have h0 : n * s = 0 := by have : n = 0 := by omega
                              rw[this];simp
    rw[O,h0]at a4;simpa using a4
   subst a5;exact⟨w,M,by simp[storeCells],rfl,λ_ _=>rfl,rfl,rfl,rfl,b2,rfl,λk=>by rw[if_neg asp]⟩
  .have hd:=g1 bl;subst hd;rw[Addr.add_mk];have:=jr (P:=P) (b:=f.blk) (ty:=bt) (fr:=fr) cs w M (f.off+off+m*s) 0 b2 (λv hv=>by obtain⟨j,C⟩:=aqN.1 hv;have al:j<g.length:=(by have:=(aoZ.1 C).1;omega);obtain⟨y,h7,h8⟩:=S.get (ao8 al);rw[C]at h7;cases h7;exact h8.one (apa.1 R _ (apZ al))) aso (λk h7 h8=>b6 k aso aso)
   simpa using this
 have r:(Builtin.append_ #[t,u] ty #[.slice (some ⟨f.blk,d,none⟩) m K,v]).run P w=.ok (.slice (some ⟨f.blk,d,none⟩) (m+n) K) w':=by rw[kl (ty:=ty) ht hu hs U h4 A];simp only[N,ao9]
 have I:=D.turn (w':=w') (k':=.dead) V rfl g0 X r3 r4 r5 r6 (by simp[bZ]) asp;have b':=I.add (.cells ((l.drop off).take (m*s)++g)) ⟨f.blk,f.off+off,f.size⟩ bi.1 bi.2 (λj k' d' C ca ce=>by
  rw[apB]at C;split at C;split at C;cases C;simp[Blk.live]at ca;cases C;rename_i bs;intro e;exact bs (D.inj _ _ _ _ _ _ V rfl C ca g0 ce e.symm)) rfl (λj n2 s2 t2 d C a6 co=>D.tkloc j n2 s2 t2 d i _ f (gq asp C) a6 co V rfl g0) (by
  refine⟨⟨f.blk,f.off+off,f.size⟩,W,bt,fr,asp,r7,by simpa using r8.trans b3,by simp only[apd,bb];omega,λj a' ha=>?_,λo h5 h6=>b6 o (by simp at h5;omega) h6⟩;have a0:∀x y,VR E x y->VR {E with loc:=λi'=>if i'=(L.set i .dead).length then some ⟨f.blk,f.off+off,f.size⟩else E.loc i'} x y:=λx y cv=>VR.mono (Env.le_loc _ (I.fresh _ (ao0 _))) _ _ cv
  show ∃v,W[f.off+off+j]?=some v/\_;rw[r9];rw[aqn]at ha;rw[bb]at ha;by_cases C:j<m*s;rw[if_pos C,ap5 C,apY]at ha;rw[if_neg aso];obtain⟨x,e1,e2⟩:=b5 _ _ ha;exact⟨x,by rw[<- e1];congr 1;omega,a0 _ _ e2⟩;rw[if_neg C]at ha;have cr:=(aoZ.1 ha).1;rw[if_pos aso];obtain⟨x,e1,e2⟩:=S.get ha;exact⟨x,by rw[<- e1];congr 1;omega,a0 _ _ e2⟩)
 refine⟨_,_,w',r,b'.1,?_,by simpa using b'.2⟩;simp only[VR];refine⟨⟨f.blk,f.off+off,f.size⟩,K,d,asp,rfl,λbs=>by simpa using g1 bs,A,asp,?_⟩;simpa using g4;obtain⟨_,_,cs,S,h4⟩:=bW (P:=P) F hy H k1;obtain⟨_,q2,os,q3,q4⟩:=bW (P:=P) (sz:=s) (c:=off+m*s<=l.length) (l:=(l.drop off).take (m*s)) (n:=m) F hx (by simp only[elems,V]) k2;obtain⟨B,rest,j1,j2,j3⟩:=wm (P:=P) (w:=w) (ty:=ty) (m:=m) (c:=K) (base:=some ⟨f.blk,d,none⟩) (os:=os) ht hu hs hb a_ a9 U h4 q4 aso Z k4;have I:Rel w0 S0 E (L.set i .dead) {w with drawn:=w.drawn+1}:=F.kill asp λj k I=>by rw[apB]at I;split at I;split at I;cases I;exact .inl rfl;cases I;exact .inr I
 obtain⟨E1,a1,a2,a3⟩:=fresh _ os cs m B rest q3 S q2 O j1 j2 (L.set i .dead) I;exact⟨E1,_,_,j3,a1,by simpa using a2,a3⟩;cases h;cases h;cases h
theorem ahw{t u e ty:TypeId}{sz f i off m cp:Nat}{z l:List AV}{p v:Value}{j q:IntKind}{k:Int}(hR:Rel w0 S0 E L w)(ht:P.underlying t=some (.slice e))(hu:P.underlying u=some (.int j))(hs:dr P e=some sz)(O:aab P e=some f)(hz:zOf P e=some z)(G:z.length=sz)(T:VR E (.lsl i off m (some cp) sz) p)(M:VR E (.int q k) v)(hL:L[i]?=some (.cells l))(hc:0<=k/\k<=1099511627776/\cp<m+k.toNat/\off+m*sz<=l.length/\(m+k.toNat)*f<=140737488355328/\m+k.toNat<=140737488355328):
  dz P w0 S0 E (L++[.cells ((l.drop off).take (m*sz)++gu z k.toNat)]) (.lsl L.length 0 (m+k.toNat) none sz) w (Builtin.append_ #[t,u] ty #[p,v]):=by
 obtain⟨c1,c2,c3,c4,c5,c6⟩:=hc;have s:Rel w0 S0 E L {w with drawn:=w.drawn+1}:=hR.draw _;obtain⟨b,J,B,_⟩:=SN (E:=E) hz;have h:b.cells.size=sz:=by have:=B.length;simpa[G]using this
 simp only[VR]at M;subst M;have C:=T;simp only[VR]at C;obtain⟨Y,r,d,g0,rfl,g1,g2,g3,g4⟩:=C;have:=g3 cp rfl;subst this;obtain⟨_,q2,os,S,q4⟩:=bW (P:=P) (sz:=sz) (c:=off+m*sz<=l.length) (l:=(l.drop off).take (m*sz)) (n:=m) s T (by simp only[elems,hL]) c4;obtain⟨n,K⟩:∃n,n=k.toNat:=⟨_,rfl⟩;rw[<- K]at c3 c5 c6⊢;obtain⟨a,y⟩:∃a,a=(Question.appendCap (m+n) r e).cut (w.tape w.drawn (.appendCap (m+n) r e)):=⟨_,rfl⟩;have I:m+n<=a:=by rw[y];simp[Question.cut]
 obtain⟨g,hi,H⟩:∃i,P.info? e=some i/\i.bytes=f:=by unfold aab at O;simpa using O
 have x:∀W,(typeInfo e).run P W=.ok g W:=λW=>by simp[typeInfo,hi]
 have R:=growslice_fits (need:=m+n) (old:=r) (bytes:=f) c3 c5;have A:IntKind.i64.max=9223372036854775807:=by decide
 have X:IntKind.i64.wrap k=k:=by simp only[IntKind.wrap,IntKind.bits,IntKind.signed];simp;omega
 have Z:(n:Int)=k:=aso;have N:k*(g.bytes:Int)<=2^48:=by grind
 have n0:¬k<0:=aso;have n3:¬k*(g.bytes:Int)>2^48:=aso;have n1:¬(((m+n:Nat):Int)>IntKind.i64.max/\True):=by rw[A];omega
 have n2:¬(Builtin.nextslicecap (m+n) r*g.bytes>2^48):=by rw[H];omega
 have o:∀W,(if n*sz=0 then(pure #[]:Sem (Array Value))else do pure (Builtin.zeroCells (<- zeroValue e).cells n)).run P W=.ok (Builtin.zeroCells b.cells n) W:=λW=>by
  by_cases U:n*sz=0;rw[if_pos U];have:Builtin.zeroCells b.cells n=#[]:=by apply Array.eq_empty_of_size_eq_zero;rw[kp,h,U]
  simp_all;simp_all
 have D:(Builtin.append_ #[t,u] ty #[.slice (some ⟨Y.blk,d,none⟩) m r,.int q k]).run P w =
   .ok (.slice (some ⟨w.heap.size,0,none⟩) (m+n) a) {w with heap:=w.heap.push (.cells ⟨(os++(Builtin.zeroCells b.cells n).toList)++(Builtin.zeroCells b.cells (a-(m+n))).toList⟩ e),drawn:=w.drawn+1}:=by
  unfold Builtin.append_;simp only[arg,apU,ap1,ao7,run_underlying ht,run_underlying hu,ao9,apF,cD hs,if_true,asInt,asIntOf,X,if_neg n0,x,if_neg n3,<- K];simp only[if_neg (show ¬(m+n<=r)by omega),aqO,apj,if_false,true_or];simp only[if_neg n1,apF,ao7,x,ao9,if_neg n2,run_choose,Question.forced,apj,if_false,<- y,run_askRoom,q4,o,J,newRow,run_newObj];have Q:((⟨os⟩:Array Value)++Builtin.zeroCells b.cells n++Builtin.zeroCells b.cells (a-(m+n)))=⟨(os++(Builtin.zeroCells b.cells n).toList)++(Builtin.zeroCells b.cells (a-(m+n))).toList⟩:=by simp
  grind
 have F:VRL E (gu z n) (Builtin.zeroCells b.cells n).toList:=by have:=Te B n;simpa[Builtin.zeroCells]using this
 obtain⟨E',r1,r2,V⟩:=tq s (S.append F) (Builtin.zeroCells b.cells (a-(m+n))).toList e (0,0) asp;refine⟨E',_,_,D,r1,?_,V⟩;simp only[VR];refine⟨_,a,0,r2,rfl,asp,I,asp,?_⟩;have h1:=S.length;have h2:((Builtin.zeroCells b.cells n).toList).length=n*sz:=by simp[kp,h]
 have h5:((Builtin.zeroCells b.cells (a-(m+n))).toList).length=(a-(m+n))*sz:=by simp[kp,h]
 have:(m+n)*sz+(a-(m+n))*sz=a*sz:=by rw[<- ap8];congr 1;omega
 have h3:(m+n)*sz=m*sz+n*sz:=ap8 _ _ _;simp only[apd,h2,h5];omega
end
section
variable {P:Program}{w0:World}{S0:SB}{E:Env}{L:List Blk}{w:World}{T:Tm}{a:Act}
def fj(P:Program)(w0:World)(S0:SB)(E:Env)(L':List Blk)(av:AV)(w:World)(s:Sem Next):Prop :=
 ∃E' v w',(s.run P w=.ok (.value v) w'\/(s.run P w=.ok .skip w'/\v=undef))/\E.le E'/\VR E' av v/\Rel w0 S0 E' L' w'
theorem dz.done{L':List Blk}{av:AV}{s:Sem Value}(h:dz P w0 S0 E L' av w s):fj P w0 S0 E L' av w (do pure (.value (<- s))):=by obtain⟨E',v,w',b,a⟩:=h;exact⟨E',v,w',.inl (by simp[b]),a⟩
theorem tC:∀{xs:List Operand}{c:List Opd}{l:List AV},oV xs=some c->jc T c=some l->TR E T a->VRL E l (xs.map a.eval)
 |[],c,l,h,hv,_=>by simp[oV]at h;subst h;simp[jc]at hv;subst hv;rfl
 | x::xs,c,l,h,hv,hT=>by
   simp only[oV,arM]at h;rcases h1:bV x with _|y
   .simp_all
   .rcases h2:xs.mapM bV with _|e
    .simp_all
    .simp[h1,h2]at h;subst h;simp only[jc]at hv;split at hv<;>simp at hv;rename_i b m d h4;subst hv;exact⟨_,_,rfl,aq h1 d hT,tC (by simpa[oV]using h2) h4 hT⟩
theorem XJ{sz:Nat}{x:AV}{v:Value}{c:Prop}{l:List AV}{n:Nat}(k:Nat)(C:k<=n)(B:Rel w0 S0 E L w)(g:VR E x v)(h:elems L sz x=some (c,l,n))(N:c):
  ∃cs,VRL E (l.take (k*sz)) cs/\cs.length=k*sz/\(Builtin.firstCells sz k v).run P w=.ok ⟨cs⟩ w:=by
 have Q:k*sz<=n*sz:=ap6 _ C;unfold elems at h;split at h;simp only[ao1,apf]at h;obtain⟨rfl,rfl,rfl⟩:=h;simp only[VR]at g;subst g;have:k=0:=aso;subst this;exact⟨[],by simp[VRL],asp,by simp[Builtin.firstCells]⟩;rename_i l m cap;simp only[ao1,apf]at h;obtain⟨rfl,rfl,rfl⟩:=h;exact(S7 (P:=P) B g N C).2;rename_i l m i s;simp only[ao1,apf]at h;obtain⟨rfl,rfl,rfl⟩:=h;subst N;exact(S7 (P:=P) B g.gsl_sl.1 g.gsl_sl.2 C).2;rename_i i off m cap s;split at h;rename_i y M;simp only[ao1,apf]at h;obtain⟨rfl,rfl,rfl⟩:=h;simp only[VR]at g;obtain⟨q,O,d,A,rfl,F,T,h4,S⟩:=g;obtain⟨k',G,ty,fr,g1,J,g3,g4,K,R⟩:=B.blk i _ M;rw[A]at g1;cases g1;have e:(((y.drop off).take (m*sz)).take (k*sz)).length=k*sz:=by simp;omega
 rcases aqp k with r|r;subst r;exact⟨[],by simp[VRL],asp,by simp[Builtin.firstCells,loadCells,loadCellsFrom]⟩;have D:=F aso;subst D;obtain⟨cs,p,z⟩:=jb (P:=P) (w:=w) (b:=q.blk) (o:=q.off+off) (l:=((y.drop off).take (m*sz)).take (k*sz)) λj a f=>by have u:j<k*sz:=(by have:=(aoZ.1 f).1;omega);rw[ap5 u,ap5 aso,apY]at f;obtain⟨x,t,H⟩:=K _ _ f;refine⟨x,?_,H⟩;rw[<- ap7]at t;simp[World.cell?,J,t]
 exact⟨cs,p,by rw[p.length,e],by rw[e]at z;simpa[Builtin.firstCells]using z⟩;rename_i y M;simp only[ao1,apf]at h;obtain⟨rfl,rfl,rfl⟩:=h;simp only[VR]at g;obtain⟨q,O,d,A,rfl,F,T,h4,S⟩:=g;obtain⟨k',G,ty,fr,g1,J,g3,g4,K,R⟩:=B.blk i _ M;rw[A]at g1;cases g1;have e:(((y.drop off).take (m*sz)).take (k*sz)).length=k*sz:=by simp;omega
 rcases aqp k with r|r;subst r;exact⟨[],by simp[VRL],asp,by simp[Builtin.firstCells,loadCells,loadCellsFrom]⟩;have D:=F aso;subst D;obtain⟨cs,p,z⟩:=jb (P:=P) (w:=w) (b:=q.blk) (o:=q.off+off) (l:=((y.drop off).take (m*sz)).take (k*sz)) λj a f=>by have u:j<k*sz:=(by have:=(aoZ.1 f).1;omega);rw[ap5 u,ap5 aso,apY]at f;obtain⟨x,t,H⟩:=K _ _ f;refine⟨x,?_,H⟩;rw[<- ap7]at t;simp[World.cell?,J,t]
 exact⟨cs,p,by rw[p.length,e],by rw[e]at z;simpa[Builtin.firstCells]using z⟩;cases h;split at h;rename_i s I;simp only[ao1,apf]at h;obtain⟨rfl,rfl,rfl⟩:=h;simp only[VR]at g;subst g;subst I;refine⟨(s.map λb=>Value.int .u8 b.toNat).take k,?_,by simp;omega,?_⟩;refine VRL.of_get (by simp[u8s]) λi a f=>?_
 have u:i<k:=by have:=(aoZ.1 f).1;simp at this;omega
 simp only[Nat.mul_one]at f;rw[ap5 u]at f⊢;simp only[u8s,apS,apE]at f⊢;obtain⟨b,A,rfl⟩:=f;exact⟨_,⟨b,A,rfl⟩,rfl⟩;simp only[Builtin.firstCells,apF];simp;cases h;cases h
theorem abk{t u e ty:TypeId}{sz n:Nat}{x y:AV}{p v:Value}{c:Prop}{a:List AV}(r:Rel w0 S0 E L w)(J:P.underlying t=some (.slice e))(G:dr P e=some sz)(q:VR E x p)(B:VR E y v)(f:elems L sz y=some (c,a,n))(A:c):
  (x=.nilsl->dz P w0 S0 E L (.int .i64 0) w (Builtin.copy_ #[t,u] ty #[p,v])) /\
  (∀ i off m cap l,x=.lsl i off m cap sz->L[i]?=some (.cells l)->off+m * sz<=l.length->(a.take (min n m * sz)).all AV.one=true ->
   dz P w0 S0 E (L.set i (.cells (d6 l off (a.take (min n m*sz))))) (.int .i64 (min n m:Nat)) w (Builtin.copy_ #[t,u] ty #[p,v])):=by
 obtain⟨K,W,_,_,_⟩:=bW (P:=P) r B f A;refine⟨λI=>?_,λi off m cap l I U N o=>?_⟩<;>subst I<;>simp only[VR]at q;subst q;obtain⟨g,_,_,R⟩:=XJ (P:=P) 0 (ao2 _) r B f A;refine .same r (v:=.int .i64 0) ?_ (by simp[VR]);simp[Builtin.copy_,run_underlying J,K,cD G,R,goInt];obtain⟨H,D,d,V,rfl,g1,X,g3,g4⟩:=q;obtain⟨g,h,j,M⟩:=XJ (P:=P) (min n m) (Nat.min_le_left _ _) r B f A;have F:min n m*sz<=m*sz:=ap6 _ (Nat.min_le_right _ _);have s:min n m*sz<=n*sz:=ap6 _ (Nat.min_le_left _ _);have k:(a.take (min n m*sz)).length=min n m*sz:=by simp;omega
 have b:(Builtin.copy_ #[t,u] ty #[.slice (some ⟨H.blk,d,none⟩) m D,v]).run P w=((storeCells ⟨H.blk,d,none⟩ g).run P w).andThen λ_ w'=>.ok (.int .i64 (min n m:Nat)) w':=by unfold Builtin.copy_;simp only[arg,apU,ap1,ao7,run_underlying J,ao9,cD G,K,show Nat.min n m=min n m from rfl,M];rfl
 by_cases O:min n m*sz=0;have C:g=[]:=by rw[O]at j;simpa using j
 subst C;refine⟨E,.int .i64 (min n m:Nat),w,by rw[b];simp[storeCells],.refl E,by simp[VR],?_⟩;have:d6 l off []=l:=by simp[d6]
 have:L.set i (.cells l)=L:=by
  apply aqZ
  grind
 simp[*];have z:D≠0:=by grind
 have Q:=g1 z;subst Q;obtain⟨w',S,T⟩:=S4 (P:=P) (off:=off) r U V h (λx q=>apa.1 o x q) (by rw[k];omega);exact⟨E,.int .i64 (min n m:Nat),w',by rw[b,S];rfl,.refl E,by simp[VR],T⟩
theorem aa2{z:List AV}(h:∀a∈z,AV.one a=true):∀n,∀a∈gu z n,AV.one a=true
 |0,a,ha=>by simp[gu]at ha
 |n+1,a,ha=>by simp only[gu,ao5]at ha;exact ha.elim (h a) (aa2 h n a)
theorem Zx{t e ty:TypeId}{sz:Nat}{z:List AV}{x:AV}{p:Value}(o:Rel w0 S0 E L w)(h:P.underlying t=some (.slice e))(F:dr P e=some sz)(s:zOf P e=some z)(b:z.length=sz)(g:VR E x p):
  (x=.nilsl->dz P w0 S0 E L (.tup []) w (Builtin.clear_ #[t] ty #[p])) /\
  (∀ i off m cap l,x=.lsl i off m cap sz->L[i]?=some (.cells l)->off+m * sz<=l.length ->
   dz P w0 S0 E (L.set i (.cells (d6 l off (gu z m)))) (.tup []) w (Builtin.clear_ #[t] ty #[p])):=by
 obtain⟨B,f,j,c⟩:=SN (E:=E) s;refine⟨λn=>?_,λi off m cap l n A q=>?_⟩<;>subst n<;>simp only[VR]at g;subst g;exact .same o (v:=.tuple #[]) (by simp[Builtin.clear_,run_underlying h]) ⟨[],rfl,rfl⟩;obtain⟨G,D,d,C,rfl,g1,H,g3,g4⟩:=g;rcases aqp m with k|k;subst k;refine⟨E,.tuple #[],w,by simp[Builtin.clear_,run_underlying h],.refl E,⟨[],rfl,rfl⟩,?_⟩;have:d6 l off (gu z 0)=l:=by simp[d6,gu]
 have:L.set i (.cells l)=L:=by
  apply aqZ
  grind
 simp[*];have r:=g1 aso;subst r;have a:VRL E (gu z m) (Builtin.zeroCells B.cells m).toList:=by have:=Te j m;simpa[Builtin.zeroCells]using this
 obtain⟨w',u,y⟩:=S4 (P:=P) (off:=off) o A C a (aa2 c m) (by rw[kF,b];omega);refine⟨E,.tuple #[],w',?_,.refl E,⟨[],rfl,rfl⟩,y⟩;cases m with
 |zero=>omega
 | succ m =>
   unfold Builtin.clear_;simp only[arg,apU,ao7,run_underlying h,ao9,f,u,apF]
end
open Go Go.MapKept
section
variable {P:Program}{w0:World}{S0:SB}{E:Env}{L:List Blk}{w:World}{T:Tm}{a:Act}
def N2(P:Program):Nat->List Field->List Fq->Prop
 |_,[],[]=>True
 | i,f::fs,k::ks=>f.offset=i/\f.name ≠ "_" /\ aeS P f.type=some k/\N2 P (i+1) fs ks
 |_,_,_=>False
theorem adv:∀{a:List Field}{i:Nat}{ks:List Fq},adw P i a=some ks->N2 P i a ks
 |[],i,ks,h=>by simp only[adw,ao1]at h;subst h;trivial
 | f::a,i,ks,h=>by
   simp only[adw]at h;split at h
   .rename_i hc;split at h
    .rename_i k ks' h1 h2;simp only[ao1]at h;subst h;exact⟨hc.1,hc.2,h1,adv h2⟩
    .cases h
   .cases h
theorem We{b:TypeId}{ks:List Fq}(h:ia P b=some (.st ks)):∃a:Array Field,P.underlying b=some (.struct a)/\P.stoodInHeld b=false/\N2 P 0 a.toList ks:=by
 unfold ia at h;split at h<;>try simp only[ao1,reduceCtorEq]at h
 rename_i a d;split at h;rename_i e;simp only[apE,lY.st.injEq]at h;obtain⟨c,f,rfl⟩:=h;exact⟨a,d,e,adv f⟩;cases h
theorem Wd{t:TypeId}{k:Fq}(h:aeS P t=some k):(k=.int/\∃q,P.underlying t=some (.int q))\/(k=.str/\P.underlying t=some .string)\/(k=.bool/\P.underlying t=some .bool):=by
 unfold aeS at h
 grind
theorem aeL{t:TypeId}{k:Fq}(h:aeS P t=some k){cs:Array Value}{i:Nat}{v:Value}(b:cs[i]?=some v)(w:World):(part t cs i).run P w=.ok v w:=by rcases Wd h with⟨_,q,a⟩|⟨_,a⟩|⟨_,a⟩<;>simp[part,isAgg,run_underlying a,b]
theorem aa5:∀{ks:List Fq}{l:List AV},tu ks l=true->ks.length=l.length
 |[],[],_=>rfl
 |[],_::_,h=>by simp[tu]at h
 |_::_,[],h=>by simp[tu]at h
 |k::ks,a::l,h=>by simp only[tu,ao3]at h;simp[aa5 h.2]
theorem aoO{t:TypeId}{k:Fq}(h:aeS P t=some k){a b:AV}{u v:Value}{r:Bool}(j:amS k a=true)(g:VR E a u)(i:VR E b v)(c:Zp a b=some r)(d:Nat)(w:World):(Op.equalIn (d+1) t u v).run P w=.ok r w:=by rcases Wd h with⟨rfl,q,f⟩|⟨rfl,f⟩|⟨rfl,f⟩<;>cases a<;>simp only[amS,apj]at j<;>cases b<;>simp only[Zp,reduceCtorEq]at c<;>simp only[VR]at g i<;>subst g<;>subst i;split at c<;>simp only[ao1,reduceCtorEq]at c;rename_i e;subst e;subst c;rw[run_equalIn_int w d t _ _ _ _ f];rfl;simp only[ao1]at c;subst c;rw[run_equalIn_string w d t _ _ f,<- beq_toListBytes];rename_i a b;congr 1;by_cases e:a=b;subst e;simp[bytes_beq];simp only[e,decide_false];rcases h':(({data:={toList:=a}}:ByteArray) == {data:={toList:=b}})with _|_;rfl;have:=(bytes_beq _ _).1 h';simp_all;simp only[ao1]at c;subst c;rw[run_equalIn_bool' w d t _ _ f];rfl
theorem amq(d:Nat)(xs g:Array Value)(w:World):∀(e:List Field) (ks:List Fq) (i:Nat) (l m:List AV) (us vs:List Value) (r:Bool),N2 P i e ks->tu ks l=true->VRL E l us->VRL E m vs->(∀j,us[j]?=xs[i+j]?)->(∀j,vs[j]?=g[i+j]?)->JE l m=some r->(Op.eqFields (d+1) xs g e).run P w=.ok r w
 | [],ks,i,l,m,us,vs,r,hf,hp,hl,hm,hx,hy,hq=>by
   cases ks with
   |cons k ks=>simp[N2]at hf
   | nil =>
     cases l with
     |cons a l=>simp[tu]at hp
     | nil =>
       cases m with
       |cons b m=>simp[JE]at hq
       |nil=>simp only[JE,ao1]at hq;subst hq;simp[Op.eqFields]
 | f::e,ks,i,l,m,us,vs,r,hf,hp,hl,hm,hx,hy,hq=>by
   cases ks with
   |nil=>simp[N2]at hf
   | cons k ks =>
     cases l with
     |nil=>simp[tu]at hp
     | cons a l =>
       cases m with
       |nil=>simp[JE]at hq
       | cons b m =>
         obtain⟨A,x,h,h4⟩:=hf;simp only[tu,ao3]at hp;obtain⟨u,p,rfl,y,n⟩:=hl;obtain⟨v,o,rfl,t,q⟩:=hm;have z:xs[i]?=some u:=(by have:=hx 0;simpa using this.symm);have s:g[i]?=some v:=(by have:=hy 0;simpa using this.symm);simp only[JE]at hq;simp only[Op.eqFields,ne_eq,x,not_false_eq_true,if_true,A,ao7,aeL h z,aeL h s,ao9];cases hk:Zp a b with
         |none=>rw[hk]at hq;cases hq
         | some c =>
           rw[hk]at hq;rw[aoO h hp.1 y t hk d w];cases c with
           |false=>simp only[ao1]at hq;subst hq;simp
           | true =>
             exact amq d xs g w e ks (i+1) l m p o r h4 hp.2 n q (λj=>by have:=hx (j+1);rw[show i+(j+1)=i+1+j by omega]at this;simpa using this) (λj=>by have:=hy (j+1);rw[show i+(j+1)=i+1+j by omega]at this;simpa using this) hq
theorem ZE{a:TypeId}{ks:List Fq}{b:Array Field}(g:P.underlying a=some (.struct b))(k:P.stoodInHeld a=false)(o:N2 P 0 b.toList ks){l:List AV}{q:AV}{u v:Value}{r:Bool}(n:tu ks l=true)(h:VR E (.agg l) u)(i:VR E q v)(f:JM (.agg l) q=some r)(w:World):
  (Op.equal a u v).run P w=.ok r w:=by
 cases q<;>simp only[JM,reduceCtorEq]at f;rename_i m;obtain⟨us,rfl,c⟩:=h;obtain⟨vs,rfl,d⟩:=i;have e:P.fieldsOf a=b:=by simp[Program.fieldsOf,g]
 have:=run_equalIn_struct (P:=P) w 9999 a ⟨us⟩ ⟨vs⟩ (by rw[e];exact g) k;rw[e,amq 9998 ⟨us⟩ ⟨vs⟩ w b.toList ks 0 l m us vs r o n c d (λj=>asp) (λj=>asp) f]at this;exact this
theorem ajF{t:TypeId}(i:ia P t=some (.st [.str,.str]))(n:P.eqGuardType P.depth t=false){b c a c':List UInt8}{u v:Value}(d:Bool){op:BinOp}(e:op=if d then .neq else .eql)(k:Rel w0 S0 E L w)(m:VR E (.agg [.str b,.str c]) u)(j:VR E (.agg [.str a,.str c']) v)(x y:Operand):
  dz P w0 S0 E L (.bool (if d then !decide (b=a/\c=c')else decide (b=a/\c=c'))) w (do eqGuard op t x y u v;binOp op t u v):=by
 obtain⟨A,s,r,q⟩:=We i;have o:JM (.agg [.str b,.str c]) (.agg [.str a,.str c'])=some (decide (b=a/\c=c')):=by
  simp only[JM,JE,Zp];by_cases z:b=a
  grind
  simp[*]
 have p:=ZE s r q (l:=[.str b,.str c]) rfl m j o w;have h:=m;have g:=j;obtain⟨us,rfl,_⟩:=h;obtain⟨vs,rfl,_⟩:=g;have f:(Op.equalIn 10000 t (.agg ⟨us⟩) (.agg ⟨vs⟩)).run P w=.ok (decide (b=a/\c=c')) w:=p;cases d with
 | true =>
   subst e;refine .same (v:=.bool (!decide (b=a/\c=c'))) k ?_ (by simp only[if_true,VR]);simp only[ao7,run_eqGuard_agg w .neq t x y ⟨us⟩ ⟨vs⟩ n,ao9,run_neq_struct,f,if_true]
 | false =>
   subst e;refine .same (v:=.bool (decide (b=a/\c=c'))) k ?_ (by simp only[apj,if_false,VR]);simp only[apj,if_false,ao7,run_eqGuard_agg w .eql t x y ⟨us⟩ ⟨vs⟩ n,ao9,run_eql_struct,f]
end
section
variable {P:Program}{w0:World}{S0:SB}{E:Env}{L:List Blk}{w:World}{T:Tm}{a:Act}
theorem fj.same{av:AV}{v:Value}{s:Sem Next}(a:Rel w0 S0 E L w)(h:s.run P w=.ok (.value v) w)(b:VR E av v):fj P w0 S0 E L av w s:=⟨E,v,w,.inl h,.refl E,b,a⟩
theorem eE{x:Option Operand}{y:Option Opd}{r:Option Int}(b:TR E T a)(h:wi x=some y)(c:bnd T y=some r):V3 a x r:=alT b h c
theorem aiw{t:TypeId}{x:Operand}{g:Bool}{s:Nat}{y:Opd}{c:Prop}{av:AV}{L':List Blk}(d:Rel w0 S0 E L w)(j:TR E T a)(h:m9 P t=some g)(k:dr P t=some s)(i:bV x=some y)(b:au T L (.load g s y)=some (c,av,L'))(e:c):fj P w0 S0 E L' av w (do pure (.value (<- Instr.loadAt t (a.eval x)))):=by
 simp only[au]at b;rcases h1:evD T y with _|u;simp_all;simp only[h1,aqf]at b;rcases h2:row L u with _|⟨l,off⟩;simp_all;simp only[h2]at b;have f:=kj d i h1 j;cases g;obtain⟨rfl,rfl,rfl⟩:=b;exact(afi d h h2 f e).done;obtain⟨rfl,rfl,rfl⟩:=b;exact(afh d h k h2 f e).done
theorem agK{t:TypeId}{p x:Operand}{s:Nat}{r y:Opd}{c:Prop}{av:AV}{L':List Blk}(n:Rel w0 S0 E L w)(e:TR E T a)(o:dr P t=some s)(q:bV p=some r)(m:bV x=some y)(b:au T L (.store s r y)=some (c,av,L'))(k:c):fj P w0 S0 E L' av w (do Instr.storeAt t (a.eval p) (a.eval x);pure .skip):=by
 simp only[au]at b;split at b<;>try cases b
 rename_i i off vals v f;split at b<;>try cases b
 rename_i l j;split at b<;>try cases b
 rename_i d;rcases h3:evX T y with _|u;simp_all;simp only[h3,aqf]at f;obtain⟨w',g,h⟩:=ae8 (P:=P) n o rfl (aq q v e) j (rK f (aq m h3 e)) d.2 d.1 k;exact⟨E,undef,w',.inr ⟨by simp[g],rfl⟩,.refl E,by simp[VR],h⟩;rename_i l j;split at b<;>try cases b
 rename_i d;rcases h3:evX T y with _|u;simp_all;simp only[h3,aqf]at f;obtain⟨w',g,h⟩:=adQ (P:=P) n o rfl (aq q v e) j (rK f (aq m h3 e)) d.2 d.1 k;exact⟨E,undef,w',.inr ⟨by simp[g],rfl⟩,.refl E,by simp[VR],h⟩
theorem akT{t e:TypeId}{x:Operand}{O I F:Option Operand}{sz:Nat}{M:Opd}{B z q:Option Opd}{c:Prop}{av:AV}{L':List Blk}(v:Rel w0 S0 E L w)(d:TR E T a)(o:P.underlying t=some (.slice e))(p:dr P e=some sz)(s:bV x=some M)(i:wi O=some B)(j:wi I=some z)(n:wi F=some q)(g:au T L (.slV sz M B z q)=some (c,av,L'))(b:c):fj P w0 S0 E L' av w (do pure (.value (<- Instr.sliceAt t (a.eval x) (O.map a.eval) (I.map a.eval) (F.map a.eval)))):=by
 simp only[au]at g;have f:∀{r},bnd T q=some r->r=none->F=none:=λ{r} Q R=>by rcases eE d n Q with⟨h,_⟩|⟨_,_,_,_,h,_⟩;omega;simp_all
 split at g;rename_i m k l h4;simp only[ao1,apf]at g;obtain⟨rfl,rfl,rfl⟩:=g;have:=f h4 rfl;subst this;exact(acd v o p (aq s m d) (eE d i k) (eE d j l) b.1 b.2).done;rename_i m k l h4;simp only[ao1,apf]at g;obtain⟨rfl,rfl,rfl⟩:=g;have:=f h4 rfl;subst this;exact((Zu v o p (aq s m d) (eE d i k) (eE d j l) b.1 b.2.1).1 _ _ rfl b.2.2).done;rename_i m k l h4;simp only[ao1,apf]at g;obtain⟨rfl,rfl,rfl⟩:=g;rcases eE d j l with⟨_,h⟩|⟨o1,J,N,rfl,C,A⟩;cases h;rcases eE d n h4 with⟨_,h⟩|⟨G,H,K,rfl,y,D⟩;cases h;cases C;cases y;exact(abj v o p (aq s m d).gsl_sl.1 (eE d i k) A D b.1 b.2.1 b.2.2.1 b.2.2.2.1 b.2.2.2.2).done;rename_i m k l h4;simp only[ao1,apf]at g;obtain⟨rfl,rfl,rfl⟩:=g;rcases eE d j l with⟨_,h⟩|⟨o1,J,N,rfl,C,A⟩;cases h;rcases eE d n h4 with⟨_,h⟩|⟨G,H,K,rfl,y,D⟩;cases h;cases C;cases y;exact(abj v o p (aq s m d) (eE d i k) A D b.1 b.2.1 b.2.2.1 b.2.2.2.1 b.2.2.2.2).done;rename_i m k l h4;simp only[ao1,apf]at g;obtain⟨rfl,rfl,rfl⟩:=g;have:=f h4 rfl;subst this;obtain⟨rfl,b⟩:=b;exact((Zu v o p (aq s m d).gsl_sl.1 (eE d i k) (eE d j l) b.1 b.2.1).1 _ _ rfl b.2.2).done;rename_i m k l h4;split at g<;>try cases g
 rename_i u;subst u;have:=f h4 rfl;subst this;exact((Zu v o p (aq s m d) (eE d i k) (eE d j l) b.1 b.2.1).2 _ _ _ rfl b.2.2).done;rename_i m k l h4;split at g<;>try cases g
 rename_i u;subst u;rcases eE d j l with⟨_,h⟩|⟨o1,J,N,rfl,C,A⟩;cases h;rcases eE d n h4 with⟨_,h⟩|⟨G,H,K,rfl,y,D⟩;cases h;cases C;cases y;exact(afa v o p (aq s m d) (eE d i k) A D b.1 b.2.1 b.2.2.1 b.2.2.2).done;simp_all
theorem akU{t e:TypeId}{x:Operand}{y r:Option Operand}{n sz:Nat}{v:Opd}{g i:Option Opd}{c:Prop}{av:AV}{L':List Blk}(k:Rel w0 S0 E L w)(d:TR E T a)(s:P.underlying t=some (.array n e))(u:dr P e=some sz)(q:bV x=some v)(j:wi y=some g)(h:wi r=some i)(f:au T L (.slA n sz v g i)=some (c,av,L'))(b:c):fj P w0 S0 E L' av w (do pure (.value (<- Instr.sliceAt t (a.eval x) (y.map a.eval) (r.map a.eval) none))):=by
 simp only[au]at f;split at f;rename_i p o m;simp only[ao1,apf]at f;obtain⟨rfl,rfl,rfl⟩:=f;exact((adI k s u (kj k q p d) (eE d j o) (eE d h m) b.1 b.2.1 b.2.2.1).1 _ _ rfl).done;rename_i p o m;split at f<;>try cases f
 rename_i l z;exact((adI k s u (kj k q p d) (eE d j o) (eE d h m) b.1 b.2.1 b.2.2.1).2 _ _ _ rfl z b.2.2.2).done;simp_all
theorem agL{t e:TypeId}{x i:Operand}{sz:Nat}{n o:Opd}{c:Prop}{av:AV}{L':List Blk}(j:Rel w0 S0 E L w)(f:TR E T a)(h:P.underlying t=some (.slice e))(k:dr P e=some sz)(g:bV x=some n)(p:bV i=some o)(l:au T L (.iaddr sz n o)=some (c,av,L'))(b:c):fj P w0 S0 E L' av w (do pure (.value (<- Instr.indexAt t (a.eval x) (a.eval i)))):=by
 simp only[au]at l;split at l<;>try cases l
 all_goals
  rename_i m q;have d:=aq p q f;simp only[VR]at d;rw[d]
 exact((Si j h k (aq g m f) b.1).1 _ _ _ rfl b.2).done;exact((Si j h k (aq g m f).gsl_sl.1 b.1).1 _ _ _ rfl b.2).done;exact((Si j h k (aq g m f) b.1).2 _ _ _ _ _ rfl b.2).done
theorem aeB{t e:TypeId}{x i:Operand}{n sz:Nat}{m o:Opd}{c:Prop}{av:AV}{L':List Blk}(f:Rel w0 S0 E L w)(g:TR E T a)(k:P.underlying t=some (.array n e))(l:dr P e=some sz)(j:bV x=some m)(q:bV i=some o)(h:au T L (.iaddrA n sz m o)=some (c,av,L'))(d:c):fj P w0 S0 E L' av w (do pure (.value (<- Instr.indexAt t (a.eval x) (a.eval i)))):=by
 simp only[au]at h;split at h<;>try cases h
 all_goals
  rename_i p r;have b:=aq q r g;simp only[VR]at b;rw[b]
 exact((XI f k l (kj f j p g) d.1 d.2).1 _ _ rfl).done;exact((XI f k l (kj f j p g) d.1 d.2).2 _ _ rfl).done
theorem agN{t:TypeId}{n:Array Field}{f:Nat}{e:Field}{x:Operand}{j:Opd}{c:Prop}{av:AV}{L':List Blk}(b:Rel w0 S0 E L w)(h:TR E T a)(k:P.underlying t=some (.struct n))(i:n.toList[f]?=some e)(m:(dr P e.type).getD 0≠0)(g:bV x=some j)(d:au T L (.faddr e.offset j)=some (c,av,L')):fj P w0 S0 E L' av w (do pure (.value (<- Instr.fieldAt t (a.eval x) f))):=by
 simp only[au]at d;split at d<;>try cases d
 all_goals rename_i l
 exact((Zw b k i m (kj b g l h)).1 _ _ rfl).done;exact((Zw b k i m (kj b g l h)).2 _ _ rfl).done
theorem agM{t:TypeId}{n:Array Field}{f sz:Nat}{g:Bool}{d:Field}{x:Operand}{p:Opd}{c:Prop}{av:AV}{L':List Blk}(k:Rel w0 S0 E L w)(i:TR E T a)(j:P.underlying t=some (.struct n))(o:n.toList[f]?=some d)(q:m9 P d.type=some g)(m:dr P d.type=some sz)(h:bV x=some p)(b:au T L (.field g d.offset sz p)=some (c,av,L'))(e:c):fj P w0 S0 E L' av w (do pure (.value (<- Instr.field t (a.eval x) f))):=by
 simp only[au]at b;split at b<;>try cases b
 rename_i l r;cases g;obtain⟨rfl,rfl,rfl⟩:=b;exact((Zv k j o q m (aq h r i)).2 rfl e).done;obtain⟨rfl,rfl,rfl⟩:=b;exact((Zv k j o q m (aq h r i)).1 rfl e).done
theorem akY{op:BinOp}{t u:TypeId}{x y:Operand}{lo:LOp}{c:Prop}{av:AV}{L':List Blk}(hR:Rel w0 S0 E L w)(hT:TR E T a)(hl:Se P op t x y=some lo)(he:au T L lo=some (c,av,L'))(hc:c):
  fj P w0 S0 E L' av w (do pure (.value (<- (do eqGuard op t x y (a.eval x) (a.eval y);binOp op t (a.eval x) (a.eval y))))):=by
 unfold Se at hl;split at hl<;>try cases hl
 rename_i x' y' hx hy;have plain:∀{lo:LOp},lo=.bin op x' y'->au T L lo=some (c,av,L')->fj P w0 S0 E L' av w (do pure (.value (<- (do eqGuard op t x y (a.eval x) (a.eval y);binOp op t (a.eval x) (a.eval y))))):=λhlo he=>by
  subst hlo;simp only[au]at he;split at he<;>try cases he
  rename_i u v h1 h2;rcases h3:bin op u v with _|⟨c',r⟩;simp_all
  .simp only[h3,apl,ao1,apf]at he;obtain⟨rfl,rfl,rfl⟩:=he;have hu:=aq hx h1 hT;have hv:=aq hy h2 hT;have hguard:(eqGuard op t x y (a.eval x) (a.eval y)).run P w=.ok () w:=by
    have:(∃k n,a.eval x=.int k n)\/(∃s,a.eval x=.string s):=by
     unfold bin at h3;split at h3<;>try cases h3
     all_goals (simp only[VR]at hu)
     simp[*];simp[*];simp[*];simp[*]
    unfold eqGuard;rcases this with⟨k,n,e⟩|⟨s,e⟩<;>rw[e]<;>cases op<;>simp
   obtain⟨E',x1,w',r1,r2⟩:=ajG (P:=P) (t:=t) hR hu hv h3 hc;exact⟨E',x1,w',.inl (by simp[hguard,r1]),r2⟩
 have eqs:∀(neg:Bool) (k:EqK) (d:TypeDesc),op=(if neg then .neq else .eql)->P.underlying t=some d->k.fits d=true->(k=.iface->(lJ x ||lJ y)=true)->au T L (.eqk neg k x' y')=some (c,av,L') ->
   fj P w0 S0 E L' av w (do pure (.value (<- (do eqGuard op t x y (a.eval x) (a.eval y);binOp op t (a.eval x) (a.eval y))))):=λneg k d hop hd hk hif he=>by
  simp only[au]at he;split at he<;>try cases he
  rename_i u v h1 h2;rcases h3:eqA k u v with _|r
  .simp_all
  .simp only[h3,apl,ao1,apf]at he;obtain⟨rfl,rfl,rfl⟩:=he;exact(alE neg hop hR (aq hx h1 hT) (aq hy h2 hT) hd hk h3 x y hif).done
 have sln:∀(neg:Bool) (e:TypeId),op=(if neg then .neq else .eql)->P.underlying t=some (.slice e)->(if Zs y=true then some (LOp.slnil neg x')else none)=some lo->au T L lo=some (c,av,L') ->
   fj P w0 S0 E L' av w (do pure (.value (<- (do eqGuard op t x y (a.eval x) (a.eval y);binOp op t (a.eval x) (a.eval y))))):=λneg e hop hd hlo he=>by
  by_cases hnil:Zs y=true
  case neg=>rw[if_neg hnil]at hlo;cases hlo
  rw[if_pos hnil]at hlo;cases hlo;have hy':a.eval y=.slice none 0 0:=by
   unfold Zs at hnil;split at hnil
   .rfl
   simp_all
  rw[hy'];simp only[au]at he;split at he<;>try cases he
  all_goals
   rename_i h1;have hu:=aq hx h1 hT;simp only[VR]at hu;refine(ae9 neg hop hR hd ?_ x y).done
  .grind
  .grind
  .obtain⟨_,_,_,_,h2,_⟩:=hu;exact⟨_,_,h2,λe=>by cases e⟩
 have st2:∀(neg:Bool),op=(if neg then .neq else .eql)->(if ajn P t=true then some (LOp.eq2 neg x' y')else none)=some lo->au T L lo=some (c,av,L') ->
   fj P w0 S0 E L' av w (do pure (.value (<- (do eqGuard op t x y (a.eval x) (a.eval y);binOp op t (a.eval x) (a.eval y))))):=λneg hop hlo he=>by
  by_cases h2:ajn P t=true
  case neg=>rw[if_neg h2]at hlo;cases hlo
  rw[if_pos h2]at hlo;cases hlo;simp only[au]at he;split at he<;>try cases he
  rename_i b c b' c' h3 h4;unfold ajn at h2;split at h2
  .rename_i hkd;exact(ajF hkd (by simpa using h2) neg hop hR (aq hx h3 hT) (aq hy h4 hT) x y).done
  .cases h2
 split at hl;cases hl;exact plain rfl he;cases hl;exact plain rfl he
 .rename_i d _ _ hd;split at hl<;>try (cases hl;done)
  all_goals try cases hl
  exact eqs false .bool _ rfl hd rfl asp he;exact eqs true .bool _ rfl hd rfl asp he;exact eqs false .ptr _ rfl hd rfl asp he;exact eqs true .ptr _ rfl hd rfl asp he;exact sln false _ rfl hd hl he;exact sln true _ rfl hd hl he;exact eqs false .map _ rfl hd rfl asp he;exact eqs true .map _ rfl hd rfl asp he;exact eqs false .func _ rfl hd rfl asp he;exact eqs true .func _ rfl hd rfl asp he;split at hl<;>try cases hl
  rename_i hcst;exact eqs false .iface _ rfl hd rfl (λ_=>hcst) he;split at hl<;>try cases hl
  rename_i hcst;exact eqs true .iface _ rfl hd rfl (λ_=>hcst) he;exact st2 false rfl hl he;exact st2 true rfl hl he
 cases hl
end
end Go.Proofs.YtdnfjhflkkpokaaGreatDoor.Av
