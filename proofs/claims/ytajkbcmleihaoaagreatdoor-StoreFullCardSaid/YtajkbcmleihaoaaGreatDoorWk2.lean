/- Joined texts of the walk, made small by a program. -/
import Derived.Test.YtajkbcmleihaoaaGreatDoorWk1
import Derived.MapKept
import Derived.Laws.StructEq
set_option linter.unusedSimpArgs false
set_option linter.unusedVariables false
namespace Go.Proofs.YtajkbcmleihaoaaGreatDoor.Av
open Go
def bK(P:Program)(w0:World)(S0:SB)(E:Env)(L':List Blk)(av:AV)(w:World)(s:Sem Value):Prop :=
 ∃E' v w',s.run P w=.ok v w'/\E.le E'/\VR E' av v/\Rel w0 S0 E' L' w'
section
variable {P:Program}{w0:World}{S0:SB}{E:Env}{L:List Blk}{w:World}
theorem bK.same{av:AV}{v:Value}{s:Sem Value}(a:Rel w0 S0 E L w)(h:s.run P w=.ok v w)(b:VR E av v):bK P w0 S0 E L av w s:=⟨E,v,w,h,.refl E,b,a⟩
theorem bi{t:TypeId}{n:Nat}(h:bG P t=some n):(sizeOf t).run P w=.ok n w:=by unfold bG at h;simp only[aeK]at h;obtain⟨i,a,rfl⟩:=h;simp[sizeOf,typeInfo,a]
theorem yl{t:TypeId}{g:Bool}(h:iV P t=some g):(isAgg t).run P w=.ok g w:=by unfold iV at h;unfold isAgg;split at h<;>simp at h<;>subst h;rename_i a hd;simp[run_underlying hd];rename_i n e hd;simp[run_underlying hd];rename_i d b c hd;simp only[aer,run_underlying hd,aes];rfl
theorem JG{t:TypeId}{z:List AV}(h:zOf P t=some z):∃v,(∀w,(zeroValue t).run P w=.ok v w)/\VRL E z v.cells.toList/\∀a∈z,AV.one a=true:=by unfold zOf at h;rcases h1:P.info? t with _|i;simp_all;rcases h2:i.zero with _|v;simp_all;simp[h1,h2]at h;exact⟨v,λw=>by simp[zeroValue,typeInfo,h1,h2],UP h⟩
theorem JH{t:TypeId}{z:List AV}(h:zOf P t=some z):∃v,(zeroValue t).run P w=.ok v w/\VRL E z v.cells.toList/\∀a∈z,AV.one a=true :=
 let ⟨v,h1,h2⟩:=JG (E:=E) h
 ⟨v,h1 w,h2⟩
theorem Vg{t:TypeId}{p:AV}{v:Value}{l:List AV}{off:Nat}(c:Rel w0 S0 E L w)(g:iV P t=some false)(hr:row L p=some (l,off))(d:VR E p v)(a:off<l.length):
  bK P w0 S0 E L (l.getD off .undef) w (Instr.loadAt t v):=by
 obtain⟨b,o,rfl,h⟩:=Mc c hr d;obtain⟨x,e,f⟩:=h off l[off] (aeF a);refine .same c (v:=x) ?_ (by rw[aeA,aeF a];exact f);simp[Instr.loadAt,Instr.sureAddr,loadVar,yl g,e]
theorem N2{t:TypeId}{l:List AV}{b o:Nat}(f:iV P t=some true)(c:bG P t=some l.length)(g:∀(j:Nat) (a:AV),l[j]?=some a->∃x,w.cell? ⟨b,o+j,none⟩=some x/\VR E a x):∃cs,VRL E l cs/\(loadVar t ⟨b,o,none⟩).run P w=.ok (.agg ⟨cs⟩) w:=by
 obtain⟨cs,d,e⟩:=ix (P:=P) g;exact⟨cs,d,by simp[loadVar,yl f,bi c,e]⟩
theorem Vf{t:TypeId}{p:AV}{v:Value}{l:List AV}{off sz:Nat}(e:Rel w0 S0 E L w)(i:iV P t=some true)(f:bG P t=some sz)(hr:row L p=some (l,off))(k:VR E p v)(m:off+sz<=l.length):
  bK P w0 S0 E L (.agg ((l.drop off).take sz)) w (Instr.loadAt t v):=by
 obtain⟨b,o,rfl,q⟩:=Mc e hr k;have c:((l.drop off).take sz).length=sz:=by simp;omega
 obtain⟨cs,g,h⟩:=N2 (P:=P) (w:=w) (b:=b) (o:=o+off) (l:=(l.drop off).take sz) i (by rw[c];exact f) (λj a d=>by have n:j<sz:=(by have:=(aei.1 d).1;omega);rw[aeS n,aeX]at d;have:=q _ _ d;rwa[<- afm]at this)
 refine .same e (v:=.agg ⟨cs⟩) ?_ ⟨cs,rfl,g⟩;simpa[Instr.loadAt,Instr.sureAddr]using h
theorem ZW{l:List AV}{vs:List Value}{b:List Value}{ty:TypeId}{fr:Nat×Nat}{E':Env}{i:Nat}(g:VRL E l vs)(d:E.le E')(c:E'.loc i=some ⟨w.heap.size,0,vs.length+b.length⟩)(e:∀o,o<=vs.length+b.length->¬(fr.1<=o/\o<fr.2)):
  bf E' {w with heap:=w.heap.push (.cells ⟨vs++b⟩ ty fr)} i (.cells l):=by
 refine⟨_,⟨vs++b⟩,ty,fr,c,ahe,ahe,by have:=g.length;simp;omega,λj a h=>?_,λo _ m=>e o m⟩;obtain⟨v,f,k⟩:=g.get h;have n:j<vs.length:=(aei.1 f).1;exact⟨v,by simp[aem n,f],VR.mono d _ _ k⟩
theorem sg{l:List AV}{vs:List Value}(c:Rel w0 S0 E L w)(e:VRL E l vs)(a:List Value)(ty:TypeId)(fr:Nat×Nat)(b:∀o,o<=vs.length+a.length->¬(fr.1<=o/\o<fr.2)):
  ∃E',E.le E'/\E'.loc L.length=some ⟨w.heap.size,0,vs.length+a.length⟩/\Rel w0 S0 E' (L++[.cells l]) {w with heap:=w.heap.push (.cells ⟨vs++a⟩ ty fr)}:=by
 have d:E.loc L.length=none:=c.fresh _ (aek _);have:=c.push (.cells ⟨vs++a⟩ ty fr) (.cells l) ⟨w.heap.size,0,vs.length+a.length⟩ rfl rfl (ZW e (Env.le_loc _ d) ahe b)
 grind
theorem XK{l:List AV}{vs:List Value}{b:List Value}{ty:TypeId}{fr:Nat×Nat}{E':Env}{i:Nat}(g:VRL E l vs)(d:E.le E')(c:E'.loc i=some ⟨w.heap.size,0,vs.length+b.length⟩)(e:∀o,o<vs.length+b.length->¬(fr.1<=o/\o<fr.2)):
  bf E' {w with heap:=w.heap.push (.cells ⟨vs++b⟩ ty fr)} i (.bytes l):=by
 refine⟨_,⟨vs++b⟩,ty,fr,c,ahe,ahe,by have:=g.length;simp;omega,λj a h=>?_,λo _ m=>e o m⟩;obtain⟨v,f,k⟩:=g.get h;have n:j<vs.length:=(aei.1 f).1;exact⟨v,by simp[aem n,f],VR.mono d _ _ k⟩
theorem S7{l:List AV}{vs:List Value}(c:Rel w0 S0 E L w)(e:VRL E l vs)(a:List Value)(ty:TypeId)(fr:Nat×Nat)(b:∀o,o<vs.length+a.length->¬(fr.1<=o/\o<fr.2)):
  ∃E',E.le E'/\E'.loc L.length=some ⟨w.heap.size,0,vs.length+a.length⟩/\Rel w0 S0 E' (L++[.bytes l]) {w with heap:=w.heap.push (.cells ⟨vs++a⟩ ty fr)}:=by
 have d:E.loc L.length=none:=c.fresh _ (aek _);have:=c.push (.cells ⟨vs++a⟩ ty fr) (.bytes l) ⟨w.heap.size,0,vs.length+a.length⟩ rfl rfl (XK e (Env.le_loc _ d) ahe b)
 grind
theorem N4{t:TypeId}{v:Value}{l:List AV}(b:Rel w0 S0 E L w)(a:VRL E l v.cells.toList):
  bK P w0 S0 E (L++[.cells l]) (.ptr L.length 0) w (do pure (.pointer (some (<- newVar t v)))):=by
 obtain⟨E',c,e,d⟩:=sg b a [] t (0,0) ahe;refine⟨E',.pointer (some ⟨w.heap.size,0,none⟩),{w with heap:=w.heap.push (.cells v.cells t)},by simp[newVar,newRow],c,?_,by simpa using d⟩;simp only[VR];simp[*]
theorem Vh{t:TypeId}{z:List AV}(a:Rel w0 S0 E L w)(d:zOf P t=some z):bK P w0 S0 E (L++[.cells z]) (.ptr L.length 0) w (Instr.alloc t true (.tuple #[])):=by obtain⟨v,b,c,_⟩:=JH (w:=w) (E:=E) d;obtain⟨E',x,w',e,h4⟩:=N4 (P:=P) (t:=t) a c;exact⟨E',x,w',by simpa[Instr.alloc,b]using e,h4⟩
theorem XA(cs:List Value):∀(j off:Nat) (z:Array Value),off+j+cs.length<=z.size ->
  ((cs.zipIdx j).foldl (λa (x:Value×Nat)=>a.setIfInBounds (off+x.2) x.1) z).size=z.size /\
  ∀k,((cs.zipIdx j).foldl (λa (x:Value×Nat)=>a.setIfInBounds (off+x.2) x.1) z)[k]?=if off+j<=k/\k<off+j+cs.length then cs[k-(off+j)]? else z[k]?:=by
 induction cs with
 |nil=>intro j off z _;exact⟨rfl,λk=>by rw[if_neg ahe];rfl⟩
 | cons c cs ih =>
   intro j off z b;simp only[aeB]at b;simp only[List.zipIdx_cons,aft,aeB];have:=ih (j+1) off (z.setIfInBounds (off+j) c) (by rw[Array.size_setIfInBounds];omega)
   grind
theorem OY{T:Tm}{a:Act}(p:TR E T a){place:Nat->Option (Nat×Nat)}{d:TypeDesc}(n:∀i r,Lv P d i=some r->place i=some r):∀{ps:List (Nat×Operand)}{m:List (Nat×Nat×Opd)}{z l:List AV}{cells:Array Value},
  fL P d ps=some m->kK T z m=some l->VRL E z cells.toList->∃cs,Instr.fill place cells (ps.map λ(i,x)=>(i,a.eval x))=some cs/\VRL E l cs.toList
 |[],m,z,l,cells,hm,c,hz=>by simp[fL]at hm;subst hm;simp[kK]at c;subst c;exact⟨cells,by simp[Instr.fill],hz⟩
 | (i,x)::ps,m,z,l,cells,hm,c,hz=>by
   simp only[fL]at hm;split at hm<;>simp at hm;rename_i o s y D t A B;subst hm;simp only[kK]at c;split at c<;>try simp at c
   rename_i vals h4;obtain⟨⟨G,F⟩,c⟩:=c;rcases h7:evX T y with _|u
   .simp_all
   .simp[h7]at h4;have C:=ah A h7 p;have g:=qz h4 C;have e:=g.length;have f:=hz.length;have key:=XA (a.eval x).cells.toList 0 o cells (by simp at e f⊢;omega);have j:VRL E (bP z o vals) (((a.eval x).cells.toList.zipIdx 0).foldl (λa (x:Value×Nat)=>a.setIfInBounds (o+x.2) x.1) cells).toList:=by
     refine VRL.of_get (by rw[ma ahd];simpa using key.1.trans (by simpa using f)) λk b h=>?_
     rw[I7 ahd]at h;rw[agU,key.2 k];by_cases q:o<=k/\k<o+vals.length
     .rw[if_pos q]at h;rw[if_pos ahd];exact g.get h
     .rw[if_neg q]at h;rw[if_neg ahd];simpa using hz.get h
    obtain⟨cs,w,v⟩:=OY p n B c j;refine⟨cs,?_,v⟩;simp only[aex,Instr.fill,n _ _ t];rw[if_neg (by simp at e f⊢;omega)];rw[<- w];rw[<- Array.foldl_toList,Array.toList_zipIdx]
end
section
variable {P:Program}{w0:World}{S0:SB}{E:Env}{L:List Blk}{w:World}{T:Tm}{a:Act}
theorem Pr:∀(l:List Field),(∀f∈l,(bG P f.type).isSome=true) ->
  (l.mapM (m:=Sem) λf=>do pure (f.offset,<- sizeOf f.type)).run P w=.ok (l.map λf=>(f.offset,(bG P f.type).getD 0)) w
 |[],_=>ahe
 | f::l,h=>by
   have a:=h f ahe;rw[Option.isSome_iff_exists]at a;obtain⟨n,a⟩:=a;have c:=Pr l λg b=>h g (by simp[b])
   rw[agG,aer,aer,bi a];simp_all
theorem TG{t:TypeId}{b:Array Field}{ps:List (Nat×Operand)}{z l:List AV}{m:List (Nat×Nat×Opd)}(q:TR E T a)(o:Rel w0 S0 E L w)(hd:P.underlying t=some (.struct b))(p:zOf P t=some z)(e:b.toList.all (λf=>(bG P f.type).isSome)=true)(d:fL P (.struct b) ps=some m)(j:kK T z m=some l):
  bK P w0 S0 E L (.agg l) w (Instr.build t ⟨ps.map λ(i,x)=>(i,a.eval x)⟩):=by
 obtain⟨v,g,h,_⟩:=JH (w:=w) (E:=E) p;obtain⟨cs,s,h4⟩:=OY (place:=λi=>(b.toList.map λf=>(f.offset,(bG P f.type).getD 0)).toArray[i]?) q (λi r hr=>by simp only[Lv]at hr;split at hr<;>simp at hr;rename_i f c;obtain⟨n,k,rfl⟩:=hr;simp[c,k]) d j h
 refine .same o (v:=.agg cs) ?_ ⟨cs.toList,rfl,h4⟩;have:=Pr (P:=P) (w:=w) b.toList (aev.1 e);simp only[Instr.build,aer,g,aes,run_underlying hd,Array.mapM_eq_mapM_toList,Sem.run_map,this];simp_all
theorem TH{t e:TypeId}{n:Nat}{ps:List (Nat×Operand)}{z l:List AV}{m:List (Nat×Nat×Opd)}(k:TR E T a)(h:Rel w0 S0 E L w)(hd:P.underlying t=some (.array n e))(j:zOf P t=some z)(c:fL P (.array n e) ps=some m)(b:(bG P e).isSome=true)(g:kK T z m=some l):
  bK P w0 S0 E L (.agg l) w (Instr.build t ⟨ps.map λ(i,x)=>(i,a.eval x)⟩):=by
 obtain⟨v,d,f,_⟩:=JH (w:=w) (E:=E) j;rw[Option.isSome_iff_exists]at b;obtain⟨s,b⟩:=b;obtain⟨cs,o,h4⟩:=OY (place:=λi=>some (i*s,s)) k (λi r hr=>by simp only[Lv,b,aeC]at hr;exact hr) c g f
 refine .same h (v:=.agg cs) ?_ ⟨cs.toList,rfl,h4⟩;simp only[Instr.build,aer,d,aes,run_underlying hd,bi b];simp[*]
theorem ki(z:List AV):∀n,(cY z n).length=n*z.length
 |0=>by simp[cY]
 |n+1=>by simp[cY,ki z n,Nat.succ_mul];omega
theorem Q8{z:List AV}(b:0<z.length):∀(n i:Nat),i<n*z.length->(cY z n)[i]?=z[i%z.length]?
 |0,i,h=>by simp at h
 | n+1,i,h=>by
   simp only[cY];rcases aeN i z.length with a|a
   .rw[aem a,Nat.mod_eq_of_lt a]
   .rw[aey a,Q8 b n (i-z.length) (by rw[Nat.succ_mul]at h;omega)];rw[Nat.mod_eq_sub_mod a]
theorem JU{z:List AV}{vs:List Value}(h:VRL E z vs)(n:Nat):VRL E (cY z n) ((List.range (n*vs.length)).map λi=>vs.toArray[i%vs.toArray.size]!):=by
 have b:=h.length;refine VRL.of_get (by simp[ki,b]) λi x a=>?_
 have d:i<n*z.length:=by have:=(aei.1 a).1;rwa[ki]at this
 have c:0<z.length:=by grind
 rw[Q8 c n i d]at a;obtain⟨v,e,f⟩:=h.get a;simp[*]
theorem LN:∀{m:List (Nat×Nat×Opd)}{z l:List AV},kK T z m=some l->l.length=z.length
 |[],z,l,h=>by simp[kK]at h;rw[h]
 | (o,s,x)::m,z,l,h=>by
   simp only[kK]at h;split at h<;>try simp at h
   rename_i vals _;obtain⟨⟨a,b⟩,h⟩:=h;rw[LN h,ma ahd]
theorem TI{t e:TypeId}{n s:Nat}{own:Bool}{ps:List (Nat×Operand)}{z l:List AV}{m:List (Nat×Nat×Opd)}(D:TR E T a)(p:Rel w0 S0 E L w)(hd:P.underlying t=some (.slice e))(g:bG P e=some s)(C:zOf P e=some z)(c:z.length=s)(I:n*s<=2^24)(y:fL P (.slice e) ps=some m)(o:kK T (cY z n) m=some l):
  if own then bK P w0 S0 E (L++[.cells l]) (.lsl L.length 0 n (some n) s) w (Instr.buildSlice t n ⟨ps.map λ(i,x)=>(i,a.eval x)⟩)
  else bK P w0 S0 E L (.sl l n (some n)) w (Instr.buildSlice t n ⟨ps.map λ(i,x)=>(i,a.eval x)⟩):=by
 obtain⟨v,A,u,_⟩:=JH (w:=w) (E:=E) C;have F:v.cells.size=s:=by have:=u.length;simpa[c]using this
 have b:VRL E (cY z n) ((Array.range (n*s)).map (v.cells[· % v.cells.size]!)).toList:=by have:=JU u n;simp_all
 obtain⟨cs,G,h4⟩:=OY (place:=λi=>some (i*s,s)) D (λi r hr=>by simp only[Lv,g,aeC]at hr;exact hr) y o b
 have B:l.length=n*s:=by rw[LN o,ki,c]
 have d:=h4.length;have f:(Instr.buildSlice t n ⟨ps.map λ(i,x)=>(i,a.eval x)⟩).run P w=.ok (.slice (some ⟨w.heap.size,0,none⟩) n n) {w with heap:=w.heap.push (.cells cs e)}:=by by_cases j:n*s=0;have hr:Array.range 0=#[]:=rfl;simp[j,hr]at G;simp[Instr.buildSlice,run_underlying hd,bi g,j,hr,newRow];simp[*];simp[Instr.buildSlice,run_underlying hd,bi g,show ¬(n*s>2^24)by omega,j,A,newRow];simp_all
 split;obtain⟨E',h,k,q⟩:=sg p h4 [] e (0,0) ahe;refine⟨E',_,_,f,h,?_,by simpa using q⟩;exact⟨_,n,0,k,rfl,ahe,aek _,ahe,by simp at d⊢;omega⟩;obtain⟨E',h,k,q,H⟩:=p.imm cs.toList e l h4 [] (0,0);refine⟨E',_,_,f,h,?_,by simpa using k⟩;simp only[VR]
 grind
theorem U6{t:TypeId}{v x:Value}{p:AV}{i off sz:Nat}{l vals:List AV}(m:Rel w0 S0 E L w)(e:bG P t=some sz)(n:p=.ptr i off)(j:VR E p v)(h:L[i]?=some (.cells l))(d:VRL E vals x.cells.toList)(b:vals.all AV.one=true)(a:vals.length=sz)(k:off+sz<=l.length):
  ∃w',(Instr.storeAt t v x).run P w=.ok () w'/\Rel w0 S0 E (L.set i (.cells (bP l off vals))) w':=by
 subst n;obtain⟨c,q,rfl⟩:=j;have o:=d.length;obtain⟨w',f,g⟩:=JM (P:=P) (off:=off) m h q d (by simpa using b) ahd;refine⟨w',?_,g⟩;have:x.cells.size=sz:=by simpa[a]using o
 simp[Instr.storeAt,Instr.sureAddr,storeVar,bi e,this,f]
theorem TJ{t:TypeId}{v x:Value}{p:AV}{i off sz:Nat}{l vals:List AV}(m:Rel w0 S0 E L w)(e:bG P t=some sz)(n:p=.ptr i off)(j:VR E p v)(h:L[i]?=some (.bytes l))(d:VRL E vals x.cells.toList)(b:vals.all AV.one=true)(a:vals.length=sz)(k:off+sz<=l.length):
  ∃w',(Instr.storeAt t v x).run P w=.ok () w'/\Rel w0 S0 E (L.set i (.bytes (bP l off vals))) w':=by
 subst n;obtain⟨c,q,rfl⟩:=j;have o:=d.length;obtain⟨w',f,g⟩:=WH (P:=P) (off:=off) m h q d (by simpa using b) ahd;refine⟨w',?_,g⟩;have:x.cells.size=sz:=by simpa[a]using o
 simp[Instr.storeAt,Instr.sureAddr,storeVar,bi e,this,f]
theorem abm{op:UnOp}{x y:AV}{v:Value}(a:Rel w0 S0 E L w)(b:VR E x v)(h:un op x=some y):bK P w0 S0 E L y w (Op.unary op v):=by unfold un at h;split at h<;>simp at h<;>subst h<;>simp only[VR]at b<;>subst b;exact .same a (v:=.int _ _) (by simp[Op.unary,Op.intArith]) rfl;exact .same a (v:=.int _ _) (by simp[Op.unary,Op.intBits]) rfl;exact .same a (v:=.bool _) (by simp[Op.unary]) rfl
theorem Xw{op:BinOp}{t:TypeId}{k:IntKind}{m n:Int}{y:AV}{c:Prop}(hR:Rel w0 S0 E L w)(h:abD op k m n=some (c,y))(hc:c):
  bK P w0 S0 E L y w (binOp op t (.int k m) (.int k n)):=by
 cases op<;>simp only[abD,aej,aet,reduceCtorEq]at h<;>obtain⟨rfl,rfl⟩:=h
 case quo=>exact .same hR (v:=.int _ _) (by simp[binOp,Op.intDiv,hc]) rfl
 case rem=>exact .same hR (v:=.int _ _) (by simp[binOp,Op.intDiv,hc]) rfl
 case add|sub|mul=>exact .same hR (v:=.int _ _) (by simp[binOp,Op.intArith]) rfl
 case and|or|xor|andNot=>exact .same hR (v:=.int _ _) (by simp[binOp,Op.intBits]) rfl
 case eql =>
  refine .same hR (v:=.bool (m == n)) (by simp[binOp,Op.intCmp]) ?_;rfl
 case neq =>
  refine .same hR (v:=.bool (m != n)) (by simp[binOp,Op.intCmp]) ?_;rfl
 all_goals exact .same hR (v:=.bool _) (by simp[binOp,Op.intCmp]) rfl
theorem Xv{op:BinOp}{t:TypeId}{x z:List UInt8}{y:AV}{c:Prop}(hR:Rel w0 S0 E L w)(h:abC op x z=some (c,y))(hc:c):
  bK P w0 S0 E L y w (binOp op t (.string ⟨⟨x⟩⟩) (.string ⟨⟨z⟩⟩)):=by
 have e1:(ByteArray.mk ⟨x⟩).toList=x:=agH x;have e2:(ByteArray.mk ⟨z⟩).toList=z:=agH z;have e3:(x == z)=decide (x=z):=by by_cases h:x=z<;>simp[h]
 cases op<;>simp only[abC,aej,aet,reduceCtorEq]at h<;>obtain⟨rfl,rfl⟩:=h
 case add =>
  refine .same hR (v:=.string ⟨⟨x++z⟩⟩) ?_ rfl;have hs1:(ByteArray.mk ⟨x⟩).size=x.length:=rfl;have hs2:(ByteArray.mk ⟨z⟩).size=z.length:=rfl;have hm:¬(((x.length+z.length:Nat):Int)>IntKind.i64.max):=by simp_all
  simp only[binOp,Op.stringOp,hs1,hs2,if_neg hm];rfl
 all_goals exact .same hR (v:=.bool _) (by simp[binOp,Op.stringOp,e1,e2,e3];try rfl) rfl
end
section
variable {P:Program}{w0:World}{S0:SB}{E:Env}{L:List Blk}{w:World}{T:Tm}{a:Act}
theorem Zt{op:BinOp}{t:TypeId}{x y:AV}{u v:Value}{r:AV}{c:Prop}(d:Rel w0 S0 E L w)(a:VR E x u)(b:VR E y v)(h:bin op x y=some (c,r))(f:c):
  bK P w0 S0 E L r w (binOp op t u v):=by
 unfold bin at h;split at h;simp only[aej,aet]at h;obtain⟨rfl,rfl⟩:=h;simp only[VR]at a b;subst a b;exact .same d (v:=.int _ _) (by simp[binOp,Op.shift,show ¬(_<(0:Int))from Int.not_lt.2 f]) rfl;simp only[aej,aet]at h;obtain⟨rfl,rfl⟩:=h;simp only[VR]at a b;subst a b;exact .same d (v:=.int _ _) (by simp[binOp,Op.shift,show ¬(_<(0:Int))from Int.not_lt.2 f]) rfl;split at h;rename_i e;subst e;simp only[VR]at a b;subst a b;exact Xw d h f;cases h;simp only[VR]at a b;subst a b;exact Xv d h f;cases h
theorem PU(t:TypeId)(x y:Value):Op.equal t x y=Op.equalIn (9999+1) t x y:=rfl
def EqK.fits:EqK->TypeDesc->Bool
 |.bool,.bool|.ptr,.pointer _|.slice,.slice _|.map,.map _ _|.func,.func _ _ _|.iface,.interface _=>true
 |_,_=>false
theorem VR.ptr_shape{i off:Nat}{v:Value}(h:VR E (.ptr i off) v):∃p,v=.pointer (some p):=by simp only[VR]at h;obtain⟨_,_,h⟩:=h;exact⟨_,h⟩
theorem VR.iptr_shape{l:List AV}{off:Nat}{v:Value}(h:VR E (.iptr l off) v):∃p,v=.pointer (some p):=by simp only[VR]at h;obtain⟨_,_,h,_⟩:=h;exact⟨_,h⟩
theorem VR.lsl_shape{i off n s:Nat}{c:Option Nat}{v:Value}(h:VR E (.lsl i off n c s) v):∃p c,v=.slice (some p) n c:=by simp only[VR]at h;obtain⟨_,_,_,_,h,_⟩:=h;exact⟨_,_,h⟩
theorem VR.lmap_shape{i:Nat}{v:Value}(h:VR E (.lmap i) v):∃p,v=.map (some p):=by simp only[VR]at h;obtain⟨_,_,h⟩:=h;exact⟨_,h⟩
theorem VR.func_shape{f:FuncId}{l:List AV}{v:Value}(h:VR E (.func f l) v):∃p,v=.func (.func f) #[] p:=by simp only[VR]at h;obtain⟨_,h,_⟩:=h;exact⟨_,h⟩
theorem VR.iface_shape{t:TypeId}{x:AV}{v:Value}(h:VR E (.iface t x) v):∃p,v=.iface t p:=by simp only[VR]at h;obtain⟨_,h,_⟩:=h;exact⟨_,h⟩
set_option maxHeartbeats 2000000 in
theorem abt{k:EqK}{t:TypeId}{d:TypeDesc}{x y:AV}{u v:Value}{r:Bool}(b:VR E x u)(a:VR E y v)(hd:P.underlying t=some d)(c:k.fits d=true)(h:eqA k x y=some r):
  (Op.equal t u v).run P w=.ok r w/\(∀k m,u≠.int k m)/\(∀s,u≠.string s)/\(∀l,u≠.agg l)/\(u=.nilIface->v=.nilIface->k=.iface)/\(∀k f,u≠.float k f)/\(∀k f g,u≠.complex k f g):=by
 rw[PU];generalize 9999=depth;unfold eqA at h;split at h<;>simp at h<;>subst h<;>cases d<;>simp[EqK.fits]at c
 all_goals
  (first
   |(obtain⟨_,rfl⟩:=b.ptr_shape)|(obtain⟨_,rfl⟩:=b.iptr_shape)|(obtain⟨_,_,rfl⟩:=b.lsl_shape)
   |(obtain⟨_,rfl⟩:=b.lmap_shape)|(obtain⟨_,rfl⟩:=b.func_shape)|(obtain⟨_,rfl⟩:=b.iface_shape)|(simp only[VR]at b;subst b))
  (first
   |(obtain⟨_,rfl⟩:=a.ptr_shape)|(obtain⟨_,rfl⟩:=a.iptr_shape)|(obtain⟨_,_,rfl⟩:=a.lsl_shape)
   |(obtain⟨_,rfl⟩:=a.lmap_shape)|(obtain⟨_,rfl⟩:=a.func_shape)|(obtain⟨_,rfl⟩:=a.iface_shape)|(simp only[VR]at a;subst a))
  (refine⟨?_,ahe,ahe,ahe,ahe,ahe,ahe⟩)
  (simp only[Op.equalIn,aer,run_underlying hd,aes,aeP,Option.isNone,beq_self_eq_true])
 rfl
theorem abn{op:BinOp}{k:EqK}{t:TypeId}{d:TypeDesc}{x y:AV}{u v:Value}{r:Bool}(a:Bool)(b:op=if a then .neq else .eql)(o:Rel w0 S0 E L w)(p:VR E x u)(f:VR E y v)(hd:P.underlying t=some d)(g:k.fits d=true)(h:eqA k x y=some r)(X Y:Operand)(c:k=.iface->(kI X ||kI Y)=true):
  bK P w0 S0 E L (.bool (if a then !r else r)) w (do eqGuard op t X Y u v;binOp op t u v):=by
 obtain⟨i,e,j,n3,n4,n,l⟩:=abt (P:=P) (w:=w) p f hd g h;have m:(eqGuard op t X Y u v).run P w=.ok () w:=by
  subst b;unfold eqGuard;cases a<;>simp
  all_goals
   split
   .have:=c (n4 rfl rfl);cases X<;>cases Y<;>simp[kI]at this<;>simp
   .exact absurd rfl (n3 _)
   .rfl
 refine .same o (v:=.bool (if a then !r else r)) ?_ (by simp[VR]);rw[aer,m,aes];subst b;cases a<;>simp only[if_true,if_false,aeE]
 all_goals
  cases u<;>first
   |exact absurd rfl (e _ _)
   |exact absurd rfl (j _)
   |exact absurd rfl (n _ _)
   |exact absurd rfl (l _ _ _)
   |simp[binOp,i]
theorem U7{op:BinOp}{t e:TypeId}{u:Value}{n:Nat}(a:Bool)(b:op=if a then .neq else .eql)(g:Rel w0 S0 E L w)(hd:P.underlying t=some (.slice e))(i:∃p c,u=.slice p n c/\(p=none->n=0))(X Y:Operand):
  bK P w0 S0 E L (if n=0 then .anyb else .bool a) w (do eqGuard op t X Y u (.slice none 0 0);binOp op t u (.slice none 0 0)):=by
 obtain⟨p,c,rfl,h⟩:=i;have d:(Op.equal t (.slice p n c) (.slice none 0 0)).run P w=.ok p.isNone w:=by rw[PU];generalize 9999=depth;simp only[Op.equalIn,aer,run_underlying hd,aes,aeP,Option.isNone];cases p<;>rfl
 have f:(eqGuard op t X Y (.slice p n c) (.slice none 0 0)).run P w=.ok () w:=by unfold eqGuard;simp
 refine .same g (v:=.bool (if a then !p.isNone else p.isNone)) ?_ ?_;rw[aer,f,aes];subst b;cases a<;>simp[binOp,d];split;exact⟨_,rfl⟩;rename_i j;cases p with
 |none=>exact absurd (h rfl) j
 |some p=>cases a<;>rfl
theorem Xu{s d:TypeId}{k:IntKind}{n:Int}{v:Value}{q:IntKind}(c:Rel w0 S0 E L w)(a:∃j,P.underlying s=some (.int j))(hd:P.underlying d=some (.int k))(b:VR E (.int q n) v):
  bK P w0 S0 E L (.int k (k.wrap n)) w (convert s d v):=by
 obtain⟨j,a⟩:=a;simp only[VR]at b;subst b;exact .same c (v:=.int _ _) (by simp[convert,run_underlying a,run_underlying hd,Conv.intToInt]) rfl
theorem U9{s d:TypeId}{v:Value}{x:AV}(e:Rel w0 S0 E L w)(c:P.underlying s=some .string)(hd:P.underlying d=some .string)(a:VR E x v)(b:∃l,x=.str l):
  bK P w0 S0 E L x w (convert s d v):=by
 obtain⟨l,rfl⟩:=b;simp only[VR]at a;subst a;exact .same e (v:=.string _) (by simp[convert,run_underlying c,run_underlying hd]) rfl
theorem VR.gsl_sl{l:List AV}{n i s:Nat}{v:Value}(h:VR E (.gsl l n i s) v):VR E (.sl l n none) v/\l.length=n*s:=by
 simp only[VR]at h⊢
 grind
theorem JQ{sz n k:Nat}{l:List AV}{cap:Option Nat}{v:Value}(r:Rel w0 S0 E L w)(m:VR E (.sl l n cap) v)(y:l.length=n*sz)(g:k<=n):
  (Builtin.lenOf v).run P w=.ok n w/\∃cs,VRL E (l.take (k*sz)) cs/\cs.length=k*sz/\(Builtin.firstCells sz k v).run P w=.ok ⟨cs⟩ w:=by
 have s:k*sz<=n*sz:=afA _ g;have d:(l.take (k*sz)).length=k*sz:=by simp;omega
 obtain⟨p,c,rfl,t,u,e⟩:=m;refine⟨by simp[Builtin.lenOf],?_⟩;rcases e with⟨rfl,rfl,rfl⟩|⟨b,o,rfl,e⟩;have:k=0:=ahd;subst this;exact⟨[],by simp[VRL],ahe,by cases p<;>simp[Builtin.firstCells,loadCells,loadCellsFrom]⟩;obtain⟨cs,h4,f⟩:=ix (P:=P) (w:=w) (b:=b) (o:=o) (l:=l.take (k*sz)) λj a i=>by obtain⟨x,h,q⟩:=(e.take (k*sz)).get i;exact⟨x,r.mem _ _ _ h,q⟩
 exact⟨cs,h4,by rw[h4.length,d],by rw[d]at f;simpa[Builtin.firstCells]using f⟩
theorem aZ{sz:Nat}{x:AV}{v:Value}{c:Prop}{l:List AV}{n:Nat}(y:Rel w0 S0 E L w)(f:VR E x v)(h:elems L sz x=some (c,l,n))(z:c):
  (Builtin.lenOf v).run P w=.ok n w/\l.length=n*sz/\∃cs,VRL E l cs/\(Builtin.firstCells sz n v).run P w=.ok ⟨cs⟩ w:=by
 unfold elems at h;split at h;simp only[aej,aet]at h;obtain⟨rfl,rfl,rfl⟩:=h;simp only[VR]at f;subst f;exact⟨by simp[Builtin.lenOf],ahe,[],by simp[VRL],by simp[Builtin.firstCells]⟩;rename_i l m cap;simp only[aej,aet]at h;obtain⟨rfl,rfl,rfl⟩:=h;obtain⟨p,cs,t,_,F⟩:=JQ (P:=P) y f z (aek _)
 grind
 rename_i l m i s;simp only[aej,aet]at h;obtain⟨rfl,rfl,rfl⟩:=h;subst z;obtain⟨f,z⟩:=f.gsl_sl;obtain⟨p,cs,t,_,F⟩:=JQ (P:=P) y f z (aek _)
 grind
 rename_i i off m cap s;split at h;rename_i l' J;simp only[aej,aet]at h;obtain⟨rfl,rfl,rfl⟩:=h;simp only[VR]at f;obtain⟨k,M,d,p,rfl,t,F,h4,N⟩:=f;obtain⟨k',B,ty,fr,g1,G,g3,g4,C,K⟩:=y.blk i _ J;rw[p]at g1;cases g1;have e:((l'.drop off).take (m*sz)).length=m*sz:=by simp;omega
 refine⟨by simp[Builtin.lenOf],e,?_⟩;rcases afy m with q|q;subst q;exact⟨[],by simp[VRL],by simp[Builtin.firstCells,loadCells,loadCellsFrom]⟩;have hd:=t ahd;subst hd;obtain⟨cs,A,u⟩:=ix (P:=P) (w:=w) (b:=k.blk) (o:=k.off+off) (l:=(l'.drop off).take (m*sz)) λj a g=>by have I:j<m*sz:=(by have:=(aei.1 g).1;omega);rw[aeS I,aeX]at g;obtain⟨x,r,H⟩:=C _ _ g;refine⟨x,?_,H⟩;rw[<- afm]at r;simp[World.cell?,G,r]
 exact⟨cs,A,by rw[e]at u;simpa[Builtin.firstCells]using u⟩;rename_i l' J;simp only[aej,aet]at h;obtain⟨rfl,rfl,rfl⟩:=h;simp only[VR]at f;obtain⟨k,M,d,p,rfl,t,F,h4,N⟩:=f;obtain⟨k',B,ty,fr,g1,G,g3,g4,C,K⟩:=y.blk i _ J;rw[p]at g1;cases g1;have e:((l'.drop off).take (m*sz)).length=m*sz:=by simp;omega
 refine⟨by simp[Builtin.lenOf],e,?_⟩;rcases afy m with q|q;subst q;exact⟨[],by simp[VRL],by simp[Builtin.firstCells,loadCells,loadCellsFrom]⟩;have hd:=t ahd;subst hd;obtain⟨cs,A,u⟩:=ix (P:=P) (w:=w) (b:=k.blk) (o:=k.off+off) (l:=(l'.drop off).take (m*sz)) λj a g=>by have I:j<m*sz:=(by have:=(aei.1 g).1;omega);rw[aeS I,aeX]at g;obtain⟨x,r,H⟩:=C _ _ g;refine⟨x,?_,H⟩;rw[<- afm]at r;simp[World.cell?,G,r]
 exact⟨cs,A,by rw[e]at u;simpa[Builtin.firstCells]using u⟩;cases h;split at h;rename_i s D;simp only[aej,aet]at h;obtain⟨rfl,rfl,rfl⟩:=h;simp only[VR]at f;subst f;subst D;refine⟨by simp[Builtin.lenOf];rfl,by simp[u8s],s.map λb=>.int .u8 b.toNat,?_,?_⟩;refine VRL.of_get (by simp[u8s]) λi a g=>?_
 simp only[u8s,ae8,aeK]at g⊢;obtain⟨b,p,rfl⟩:=g;exact⟨_,⟨b,p,rfl⟩,rfl⟩;have:(ByteArray.mk ⟨s⟩).extract 0 s.length=⟨⟨s⟩⟩:=by apply ByteArray.ext;simp
 simp[Builtin.firstCells,this];cases h;cases h
end
section
variable {P:Program}{w0:World}{S0:SB}{E:Env}{L:List Blk}{w:World}{T:Tm}{a:Act}
theorem Ql:∀(l:List AV) (cs:List Value) (s:ByteArray),VRL E l cs->l.all QI=true ->
  ((forIn (m := Sem) cs s fun c r => match c with
    |.int .u8 n=>pure (.yield (r.push (UInt8.ofNat n.toNat)))
    | _=>do
      stuck (α:=PUnit) "bytesToString: byte expected"
      pure (.yield r)):Sem ByteArray).run P w=.ok ⟨s.data++(l.map Ob).toArray⟩ w
 |[],cs,s,h,_=>by simp only[VRL]at h;subst h;simp
 | a::l,cs,s,h,hb=>by
   obtain⟨x,xs,rfl,e,g⟩:=h;simp only[afl,aeq]at hb;obtain⟨b,d⟩:=hb;have:∃n,a=.int .u8 n:=by
    unfold QI at b
    grind
   obtain⟨n,rfl⟩:=this;simp only[VR]at e;subst e;have f:=Ql l xs (s.push (UInt8.ofNat n.toNat)) g d;simp only[List.forIn_cons,aer,aeP,aes];rw[f];congr 1;simp[ByteArray.push,Ob]
theorem Ge(w:World)(c:Array Value)(e:TypeId):World.freeze {w with heap:=w.heap.push (.cells c e)} ⟨w.heap.size,c.size,none⟩ 1={w with heap:=w.heap.push (.cells c e (c.size,c.size+1))}:=by
 simp only[World.freeze,Nat.one_ne_zero,if_false];congr 1
 grind
theorem I9(w:World)(c:Array Value)(e:TypeId):World.shape? {w with heap:=w.heap.push (.cells c e)} w.heap.size=some (e,c.size):=by simp only[World.shape?,Array.getElem?_push_size]
theorem Zu{s d e:TypeId}{x:AV}{v:Value}{c:Prop}{l:List AV}{n:Nat}(j:Rel w0 S0 E L w)(o:P.underlying s=some (.slice e))(y:P.underlying e=some (.int .u8))(hd:P.underlying d=some .string)(b:VR E x v)(h:elems L 1 x=some (c,l,n))(B:c)(z:l.all QI=true)(D:∀t,x≠.str t):bK P w0 S0 E L (.str (l.map Ob)) w (convert s d v):=by
 obtain⟨u,C,cs,i,h4⟩:=aZ (P:=P) j b h B;refine .same j (v:=.string ⟨⟨l.map Ob⟩⟩) ?_ (by simp[VR]);have f:∃a n c,v=.slice a n c:=by cases x<;>simp[elems]at h;simp_all;simp only[VR]at b;exact⟨_,_,_,b⟩;simp only[VR]at b;obtain⟨_,_,rfl,_⟩:=b;exact⟨_,_,_,rfl⟩;obtain⟨_,_,rfl⟩:=b.lsl_shape;exact⟨_,_,_,rfl⟩;simp only[VR]at b;obtain⟨_,_,rfl,_⟩:=b;exact⟨_,_,_,rfl⟩
 obtain⟨a,m,k,rfl⟩:=f;have q:m=n:=by simpa[Builtin.lenOf]using u
 subst q;have g:(convert s d (.slice a m k)).run P w=(Conv.bytesToString (.slice a m k)).run P w:=by simp[convert,run_underlying o,run_underlying hd,run_underlying y]
 rw[g];cases a with
 | none =>
   have:cs=[]:=(by simpa[Builtin.firstCells]using h4.symm);subst this;have A:l=[]:=(by have:=i.length;simpa using this.symm);subst A;rfl
 | some p =>
   simp only[Builtin.firstCells,Nat.mul_one]at h4;simp only[Conv.bytesToString,aer,h4,aes];have:=Ql (P:=P) (w:=w) l cs ByteArray.empty i z;rw[show(⟨cs⟩:Array Value)=cs.toArray from rfl,List.forIn_toArray];refine(congrArg (λr=>Result.andThen r λa w'=>(Pure.pure (Value.string a):Sem Value).run P w') this).trans ?_;simp
theorem Zr{s d e:TypeId}{v:Value}{x:List UInt8}(c:Rel w0 S0 E L w)(p:P.underlying s=some .string)(hd:P.underlying d=some (.slice e))(t:P.underlying e=some (.int .u8))(o:VR E (.str x) v):
  bK P w0 S0 E L (.sl (u8s x) x.length none) w (convert s d v):=by
 simp only[VR]at o;subst o;have l:(ByteArray.mk ⟨x⟩).size=x.length:=rfl;obtain⟨cap,f⟩:∃cap,cap=(Question.appendCap x.length 0 e).cut (w.tape w.drawn (.appendCap x.length 0 e)):=⟨_,rfl⟩;have A:x.length<=cap:=by rw[f];simp[Question.cut]
 have h:VRL E (u8s x) (x.map λb=>Value.int .u8 b.toNat):=VRL.of_get (by simp[u8s]) λi a n=>by simp only[u8s,ae8,aeK]at n⊢;obtain⟨b,r,rfl⟩:=n;exact⟨_,⟨b,r,rfl⟩,rfl⟩
 have m:Rel w0 S0 E L {w with drawn:=w.drawn+1}:=⟨c.mem,λi k q=>bf.world (λ_ _=>rfl) (λ_ _ _ _=>rfl) (c.blk i k q),c.fresh,c.own,c.inj,c.tkfresh,c.tkown,c.tkloc,c.tkinj,c.frame,c.size,c.os,c.tape,c.output,c.glob,c.gsz⟩;obtain⟨y,u,z,B,_⟩:=m.imm (x.map λb=>Value.int .u8 b.toNat) e (u8s x) h (List.replicate (cap-x.length) (.int .u8 0)) (x.length+(cap-x.length),x.length+(cap-x.length)+1);have key:(convert s d (.string ⟨⟨x⟩⟩)).run P w=.ok (.slice (some ⟨w.heap.size,0,none⟩) x.length cap) {w with heap:=w.heap.push (.cells ⟨(x.map λb=>Value.int .u8 b.toNat)++List.replicate (cap-x.length) (.int .u8 0)⟩ e (x.length+(cap-x.length),x.length+(cap-x.length)+1)),drawn:=w.drawn+1}:=by
  have g:((ByteArray.mk ⟨x⟩).data.map λb=>Value.int .u8 b.toNat)++Array.replicate (cap-x.length) (.int .u8 0)=⟨(x.map λb=>Value.int .u8 b.toNat)++List.replicate (cap-x.length) (.int .u8 0)⟩:=by simp
  have j:(convert s d (.string ⟨⟨x⟩⟩)).run P w=(Conv.stringToBytes e ⟨⟨x⟩⟩).run P w:=by simp only[convert,aer,run_underlying p,run_underlying hd,aes,run_underlying t]
  rw[j];unfold Conv.stringToBytes;simp only[aer,run_choose,Question.forced,l,<- f,g,newRow,run_newObj,aes,aeP,markStringish,run_shape,aeE,if_false];rw[I9 {w with drawn:=w.drawn+1}];simp only[run_freeze,aes];rw[Ge {w with drawn:=w.drawn+1}];simp
 refine⟨y,.slice (some ⟨w.heap.size,0,none⟩) x.length cap,_,key,u,?_,z⟩;simp only[VR]
 grind
theorem Xo{s d e:TypeId}{v:Value}{x:List UInt8}(c:Rel w0 S0 E L w)(q:P.underlying s=some .string)(hd:P.underlying d=some (.slice e))(u:P.underlying e=some (.int .u8))(p:VR E (.str x) v):
  bK P w0 S0 E (L++[.bytes (u8s x)]) (.lsl L.length 0 x.length none 1) w (convert s d v):=by
 simp only[VR]at p;subst p;have l:(ByteArray.mk ⟨x⟩).size=x.length:=rfl;obtain⟨cap,f⟩:∃cap,cap=(Question.appendCap x.length 0 e).cut (w.tape w.drawn (.appendCap x.length 0 e)):=⟨_,rfl⟩;have n:x.length<=cap:=by rw[f];simp[Question.cut]
 have h:VRL E (u8s x) (x.map λb=>Value.int .u8 b.toNat):=VRL.of_get (by simp[u8s]) λi a o=>by simp only[u8s,ae8,aeK]at o⊢;obtain⟨b,t,rfl⟩:=o;exact⟨_,⟨b,t,rfl⟩,rfl⟩
 have m:Rel w0 S0 E L {w with drawn:=w.drawn+1}:=⟨c.mem,λi k r=>bf.world (λ_ _=>rfl) (λ_ _ _ _=>rfl) (c.blk i k r),c.fresh,c.own,c.inj,c.tkfresh,c.tkown,c.tkloc,c.tkinj,c.frame,c.size,c.os,c.tape,c.output,c.glob,c.gsz⟩;obtain⟨z,y,A,B⟩:=S7 m h (List.replicate (cap-x.length) (.int .u8 0)) e (x.length+(cap-x.length),x.length+(cap-x.length)+1) (by simp;omega);have key:(convert s d (.string ⟨⟨x⟩⟩)).run P w=.ok (.slice (some ⟨w.heap.size,0,none⟩) x.length cap) {w with heap:=w.heap.push (.cells ⟨(x.map λb=>Value.int .u8 b.toNat)++List.replicate (cap-x.length) (.int .u8 0)⟩ e (x.length+(cap-x.length),x.length+(cap-x.length)+1)),drawn:=w.drawn+1}:=by
  have g:((ByteArray.mk ⟨x⟩).data.map λb=>Value.int .u8 b.toNat)++Array.replicate (cap-x.length) (.int .u8 0)=⟨(x.map λb=>Value.int .u8 b.toNat)++List.replicate (cap-x.length) (.int .u8 0)⟩:=by simp
  have j:(convert s d (.string ⟨⟨x⟩⟩)).run P w=(Conv.stringToBytes e ⟨⟨x⟩⟩).run P w:=by simp only[convert,aer,run_underlying q,run_underlying hd,aes,run_underlying u]
  rw[j];unfold Conv.stringToBytes;simp only[aer,run_choose,Question.forced,l,<- f,g,newRow,run_newObj,aes,aeP,markStringish,run_shape,aeE,if_false];rw[I9 {w with drawn:=w.drawn+1}];simp only[run_freeze,aes];rw[Ge {w with drawn:=w.drawn+1}];simp
 refine⟨z,.slice (some ⟨w.heap.size,0,none⟩) x.length cap,_,key,y,?_,B⟩;refine⟨_,cap,0,A,rfl,ahe,n,ahe,?_⟩;simp_all
theorem Xp{s d e:TypeId}{v:Value}{x:List UInt8}(f:Rel w0 S0 E L w)(H:P.underlying s=some .string)(hd:P.underlying d=some (.slice e))(Q:P.underlying e=some (.int .u8))(B:VR E (.str x) v):
  bK P w0 S0 E (L++[.spare x.length 1]) (.gsl (u8s x) x.length L.length 1) w (convert s d v):=by
 simp only[VR]at B;subst B;have r:(ByteArray.mk ⟨x⟩).size=x.length:=rfl;obtain⟨cap,g⟩:∃cap,cap=(Question.appendCap x.length 0 e).cut (w.tape w.drawn (.appendCap x.length 0 e)):=⟨_,rfl⟩;have u:x.length<=cap:=by rw[g];simp[Question.cut]
 have p:VRL E (u8s x) (x.map λb=>Value.int .u8 b.toNat):=VRL.of_get (by simp[u8s]) λi a D=>by simp only[u8s,ae8,aeK]at D⊢;obtain⟨b,A,rfl⟩:=D;exact⟨_,⟨b,A,rfl⟩,rfl⟩
 have t:Rel w0 S0 E L {w with drawn:=w.drawn+1}:=⟨f.mem,λi k m=>bf.world (λ_ _=>rfl) (λ_ _ _ _=>rfl) (f.blk i k m),f.fresh,f.own,f.inj,f.tkfresh,f.tkown,f.tkloc,f.tkinj,f.frame,f.size,f.os,f.tape,f.output,f.glob,f.gsz⟩;obtain⟨R,I,M,V,N,T,U⟩:=t.imm' (x.map λb=>Value.int .u8 b.toNat) e (u8s x) p (List.replicate (cap-x.length) (.int .u8 0)) (x.length+(cap-x.length),x.length+(cap-x.length)+1);have key:(convert s d (.string ⟨⟨x⟩⟩)).run P w=.ok (.slice (some ⟨w.heap.size,0,none⟩) x.length cap) {w with heap:=w.heap.push (.cells ⟨(x.map λb=>Value.int .u8 b.toNat)++List.replicate (cap-x.length) (.int .u8 0)⟩ e (x.length+(cap-x.length),x.length+(cap-x.length)+1)),drawn:=w.drawn+1}:=by
  have h:((ByteArray.mk ⟨x⟩).data.map λb=>Value.int .u8 b.toNat)++Array.replicate (cap-x.length) (.int .u8 0)=⟨(x.map λb=>Value.int .u8 b.toNat)++List.replicate (cap-x.length) (.int .u8 0)⟩:=by simp
  have q:(convert s d (.string ⟨⟨x⟩⟩)).run P w=(Conv.stringToBytes e ⟨⟨x⟩⟩).run P w:=by simp only[convert,aer,run_underlying H,run_underlying hd,aes,run_underlying Q]
  rw[q];unfold Conv.stringToBytes;simp only[aer,run_choose,Question.forced,r,<- g,h,newRow,run_newObj,aes,aeP,markStringish,run_shape,aeE,if_false];rw[I9 {w with drawn:=w.drawn+1}];simp only[run_freeze,aes];rw[Ge {w with drawn:=w.drawn+1}];simp
 have l:XU w0 S0 R L {w with heap:=w.heap.push (.cells ⟨(x.map λb=>Value.int .u8 b.toNat)++List.replicate (cap-x.length) (.int .u8 0)⟩ e (x.length+(cap-x.length),x.length+(cap-x.length)+1)),drawn:=w.drawn+1} L.length x.length 1 (some ⟨w.heap.size,0,cap⟩):=by rintro k m;cases m;refine⟨⟨_,_,_,Array.getElem?_push_size,by simp;omega,λo A O=>by simp only at O⊢;omega⟩,λo K=>U o (by simpa using K),.inr f.size,λj k' c y W G e=>?_,λj Y J t' k' S y F z e=>?_⟩;rw[N]at G;have:=f.loc_lt y W G;simp_all;rw[T]at F;have:=f.tok_lt y F z;simp_all
 obtain⟨C,X⟩:=M.addtok (n:=x.length) (sz:=1) l;refine⟨_,.slice (some ⟨w.heap.size,0,none⟩) x.length cap,_,key,I.trans C,?_,X⟩;exact⟨_,cap,rfl,u,by simp[u8s],.inr ⟨_,0,rfl,VRC.mono C _ _ _ V⟩,⟨x.length,1,some ⟨w.heap.size,0,cap⟩⟩,ahe,ahe,λ_=>⟨rfl,ahe,λk m=>by cases m;exact⟨rfl,ahe⟩⟩⟩
theorem TC{t:TypeId}{v:Value}{x:List UInt8}(b:Rel w0 S0 E L w)(c:P.underlying t=some .string)(a:VR E (.str x) v):
  bK P w0 S0 E (L++[.siter x 0]) (.ptr L.length 0) w (Instr.range t v):=by
 simp only[VR]at a;subst a;have:=b.push (.stringIter ⟨⟨x⟩⟩ 0) (.siter x 0) ⟨w.heap.size,0,0⟩ rfl rfl ⟨⟨w.heap.size,0,0⟩,ahe,ahe,rfl⟩;refine⟨_,.pointer (some ⟨w.heap.size,0,none⟩),_,?_,this.1,?_,this.2⟩;simp[Instr.range,run_underlying c];simp only[VR];simp
theorem Va{t:TypeId}{v:Value}{i p:Nat}{x:List UInt8}(h:Rel w0 S0 E L w)(q:L[i]?=some (.siter x p))(s:VR E (.ptr i 0) v):
  bK P w0 S0 E (if p<x.length then L.set i (.siter x (p+(P3 x p).2))else L) (if p<x.length then .tup [.bool true,.int .i64 (p:Int),.int .i32 ((P3 x p).1:Int)]else .tup [.bool false]) w (Instr.next v true t):=by
 obtain⟨c,k,rfl⟩:=s;obtain⟨c',l,f,m⟩:=h.blk i _ q;rw[k]at l;cases l;have d:(ByteArray.mk ⟨x⟩).size=x.length:=rfl;have g:c.blk<w.heap.size:=(ae1.1 f).1;have n:(getObj c.blk).run P w=.ok (.stringIter ⟨⟨x⟩⟩ p) w:=by simp[getObj,Sem.run,f]
 have j:∀o,(setObj c.blk o).run P w=.ok () {w with heap:=w.heap.setIfInBounds c.blk o}:=λo=>by simp[setObj,Sem.run,f]
 rw[m];by_cases a:p<x.length;rw[if_pos a,if_pos a];have:=h.turn (w':={w with heap:=w.heap.setIfInBounds c.blk (.stringIter ⟨⟨x⟩⟩ (p+(P3 x p).2))}) (k':=.siter x (p+(P3 x p).2)) q rfl k ahe (λb r=>by simp[agb,Ne.symm r]) rfl rfl rfl
  ⟨c,k,by simp[g],m⟩ (λ_ _ e=>by cases e)
 refine⟨E,.tuple #[.bool true,goInt p,.int .i32 ((P3 x p).1:Int)],_,?_,.refl E,?_,this⟩;simp[Instr.next,n,d,a,j,P3];simp[VR,VRL,goInt];rw[if_neg a,if_neg a];refine .same h (v:=.tuple #[.bool false]) (by simp[Instr.next,n,d,a]) ?_;simp[VR,VRL]
end
section
variable {P:Program}{w0:World}{S0:SB}{E:Env}{L:List Blk}{w:World}{T:Tm}{a:Act}
theorem R2{t e:TypeId}{s b:Nat}{z:List AV}{n m:Int}{k j:IntKind}(y:Rel w0 S0 E L w)(hd:P.underlying t=some (.slice e))(o:bG P e=some s)(h:Qm P e=some b)(A:zOf P e=some z)(g:z.length=s)(c:0<=n)(H:n<=m)(I:b*m<=2^48)(J:m<2^62):
  bK P w0 S0 E (L++[.cells (cY z m.toNat)]) (.lsl L.length 0 n.toNat (some m.toNat) s) w (Instr.makeSlice t (.int k n) (.int j m)):=by
 obtain⟨v,g1,l,_⟩:=JH (w:=w) (E:=E) A;have B:v.cells.size=s:=by have:=l.length;simpa[g]using this
 have a:VRL E (cY z m.toNat) ((Array.range (m.toNat*s)).map (v.cells[· % v.cells.size]!)).toList:=by have:=JU l m.toNat;simp_all
 obtain⟨i,x,f⟩:∃i,P.info? e=some i/\i.bytes=b:=by unfold Qm at h;simpa using h
 have d:(typeInfo e).run P w=.ok i w:=by simp[typeInfo,x]
 obtain⟨E',C,r,q⟩:=sg y a [] e (0,0) ahe;have u:IntKind.i64.wrap n=n:=by simp only[IntKind.wrap,IntKind.bits,IntKind.signed];simp;omega
 have p:IntKind.i64.wrap m=m:=by simp only[IntKind.wrap,IntKind.bits,IntKind.signed];simp;omega
 refine⟨E',.slice (some ⟨w.heap.size,0,none⟩) n.toNat m.toNat,_,?_,C,?_,q⟩;have F:(decide (m<0) ||decide ((b:Int)*m>2^48))=false:=by simp;omega
 have D:(decide (n<0))=false:=by simp;omega
 have G:(decide (n>m))=false:=by simp;omega
 simp only[Instr.makeSlice,aer,run_underlying hd,aes,asInt,asIntOf,aeP,d,f,u,p,F,D,G,Bool.or_self,aeE,if_false,run_askRoom,bi o];by_cases c:m.toNat*s=0;have hr:Array.range 0=#[]:=rfl;simp[c,hr,newRow];simp[c,g1,newRow];congr 2
 grind
 refine⟨_,m.toNat,0,r,rfl,ahe,ahd,ahe,?_⟩;simp
theorem abz{x:Option Operand}{y:Option Opd}{r:Option Int}(d:TR E T a)(h:vD x=some y)(b:bnd T y=some r):
  (x=none/\r=none)\/∃o k n,x=some o/\r=some n/\a.eval o=.int k n:=by
 cases x with
 |none=>simp[vD]at h;subst h;simp[bnd]at b;exact .inl ⟨rfl,b.symm⟩
 | some o =>
   simp only[vD,aeK]at h;obtain⟨u,c,rfl⟩:=h;simp only[bnd]at b;split at b
   .rename_i k n hn;simp at b;subst b;have:=ah c hn d;simp only[VR]at this;simp[*]
   simp_all
theorem bD{k:IntKind}{n:Int}{y:Nat}{c:BoundsCode}(b:0<=n)(a:n<=y):(Instr.sliceBound (.int k n) y c).run P w=.ok n.toNat w:=by simp[Instr.sliceBound,asIntOf,b,a]
theorem fC{b:Bool}{len cap:Nat}{e f:Option Operand}{d c:Option Int}(g:(e=none/\d=none)\/∃o k n,e=some o/\d=some n/\a.eval o=.int k n)(h:(f=none/\c=none)\/∃o k n,f=some o/\c=some n/\a.eval o=.int k n)(l:0<=d.getD 0)(m:d.getD 0<=c.getD len)(p:c.getD len<=cap)(t:len<=cap):
  (Instr.sliceBounds b len cap (e.map a.eval) (f.map a.eval) none).run P w=.ok ((d.getD 0).toNat,(c.getD len).toNat,cap) w:=by
 rcases g with⟨rfl,rfl⟩|⟨o1,v,q,rfl,rfl,i⟩<;>rcases h with⟨rfl,rfl⟩|⟨u,r,s,rfl,rfl,j⟩<;>simp only[Option.getD_none,afB]at l m p;rfl;simp only[Instr.sliceBounds,aeT,aeC,j,aer,aeP,aes];rw[bD ahd ahd];simp;simp only[Instr.sliceBounds,aeT,aeC,i,aer,aeP,aes];rw[bD ahd ahd];simp;simp only[Instr.sliceBounds,aeT,aeC,i,j,aer,aeP,aes];rw[bD ahd ahd];simp only[aes];rw[bD ahd ahd];simp
theorem Zq{t:TypeId}{v:Value}{x:List UInt8}{f g:Option Operand}{c d:Option Int}(r:Rel w0 S0 E L w)(hd:P.underlying t=some .string)(j:VR E (.str x) v)(h:(f=none/\c=none)\/∃o k n,f=some o/\c=some n/\a.eval o=.int k n)(i:(g=none/\d=none)\/∃o k n,g=some o/\d=some n/\a.eval o=.int k n)(l:0<=c.getD 0)(m:c.getD 0<=d.getD x.length)(p:d.getD x.length<=x.length):
  bK P w0 S0 E L (.str ((x.drop (c.getD 0).toNat).take ((d.getD x.length).toNat-(c.getD 0).toNat))) w (Instr.sliceAt t v (f.map a.eval) (g.map a.eval) none):=by
 simp only[VR]at j;subst j;have e:(ByteArray.mk ⟨x⟩).size=x.length:=rfl;refine .same r (v:=.string ⟨⟨(x.drop (c.getD 0).toNat).take ((d.getD x.length).toNat-(c.getD 0).toNat)⟩⟩) ?_ (by simp[VR]);have q:=fC (P:=P) (w:=w) (b:=false) h i l m p (aek _);simp only[Instr.sliceAt,Instr.slice,aer,run_underlying hd,aes,e,Option.isSome_none,aeE,if_false,q];simp only[aeP];congr 2;apply ByteArray.ext;simp
theorem PO{t:TypeId}{k:Array Field}{f:Nat}{a:Field}{x:AV}{v:Value}(q:Rel w0 S0 E L w)(hd:P.underlying t=some (.struct k))(m:k.toList[f]?=some a)(r:(bG P a.type).getD 0≠0)(j:VR E x v):
  (∀i off,x=.ptr i off->bK P w0 S0 E L (.ptr i (off+a.offset)) w (Instr.fieldAt t v f))/\(∀l off,x=.iptr l off->bK P w0 S0 E L (.iptr l (off+a.offset)) w (Instr.fieldAt t v f)):=by
 obtain⟨n,p⟩:∃n,bG P a.type=some n:=by rcases h:bG P a.type with _|n;simp_all;simp
 simp only[p,afB]at r;rw[agU]at m;have d:∀b o,(Instr.fieldAt t (.pointer (some ⟨b,o,none⟩)) f).run P w=.ok (.pointer (some ⟨b,o+a.offset,none⟩)) w:=λb o=>by simp[Instr.fieldAt,run_underlying hd,m,Instr.sureAddr,fieldPlace,bi p,r,Addr.add_mk]
 refine⟨λi off e=>?_,λl off e=>?_⟩<;>subst e<;>simp only[VR]at j;obtain⟨c,g,rfl⟩:=j;exact .same q (d _ _) ⟨c,g,by rw[afm]⟩;obtain⟨b,o,rfl,g⟩:=j;exact .same q (d _ _) ⟨b,o,by rw[afm],g⟩
theorem PN{t:TypeId}{j:Array Field}{f sz:Nat}{g:Bool}{a:Field}{l:List AV}{v:Value}(m:Rel w0 S0 E L w)(hd:P.underlying t=some (.struct j))(d:j.toList[f]?=some a)(k:iV P a.type=some g)(n:bG P a.type=some sz)(q:VR E (.agg l) v):
  (g=true->a.offset+sz<=l.length->bK P w0 S0 E L (.agg ((l.drop a.offset).take sz)) w (Instr.field t v f))/\(g=false->a.offset<l.length->bK P w0 S0 E L (l.getD a.offset .undef) w (Instr.field t v f)):=by
 rw[agU]at d;obtain⟨vs,rfl,b⟩:=q;refine⟨λe c=>?_,λe c=>?_⟩<;>subst e;refine .same m (v:=.agg ((⟨vs⟩:Array Value).extract a.offset (a.offset+sz))) (by simp[Instr.field,run_underlying hd,d,asAgg,part,yl k,bi n]) ?_;refine⟨(vs.drop a.offset).take sz,ahe,VRL.of_get (by simp[b.length]) λi x h=>?_⟩;have p:i<sz:=by have:=(aei.1 h).1;simp at this;omega
 rw[aeS p,aeX]at h⊢;exact b.get h;obtain⟨x,o,r⟩:=b.get (aeF c);refine .same m (v:=x) (by simp[Instr.field,run_underlying hd,d,asAgg,part,yl k,o]) ?_;simp[*]
theorem Ji{t e:TypeId}{sz:Nat}{x:AV}{v:Value}{j:IntKind}{k:Int}(r:Rel w0 S0 E L w)(hd:P.underlying t=some (.slice e))(y:bG P e=some sz)(h:VR E x v)(u:0<=k):
  (∀l n c,x=.sl l n c->k<n->bK P w0 S0 E L (.iptr l (k.toNat*sz)) w (Instr.indexAt t v (.int j k))) /\
  (∀i off n c s,x=.lsl i off n c s->k<n->bK P w0 S0 E L (.ptr i (off+k.toNat*sz)) w (Instr.indexAt t v (.int j k))):=by
 have f:∀b o n c,k<(n:Nat)->(Instr.indexAt t (.slice (some ⟨b,o,none⟩) n c) (.int j k)).run P w=.ok (.pointer (some ⟨b,o+k.toNat*sz,none⟩)) w:=λb o n c a=>by simp[Instr.indexAt,asIntOf,run_underlying hd,u,a,bi y,Addr.add_mk]
 refine⟨λl n c e a=>?_,λi off n c s e a=>?_⟩<;>subst e<;>simp only[VR]at h;obtain⟨p,k',rfl,m,q,g⟩:=h;rcases g with⟨rfl,rfl,rfl⟩|⟨b,o,rfl,g⟩;omega;exact .same r (f _ _ _ _ a) ⟨b,o,rfl,g⟩;obtain⟨c',z,d,m,rfl,q,g,h4⟩:=h;have:=q ahd;subst this;exact .same r (f _ _ _ _ a) ⟨c',m,by rw[afm]⟩
theorem N5{t e:TypeId}{sz n:Nat}{x:AV}{v:Value}{j:IntKind}{k:Int}(d:Rel w0 S0 E L w)(hd:P.underlying t=some (.array n e))(g:bG P e=some sz)(c:VR E x v)(f:0<=k)(h:k<n):
  (∀l off,x=.iptr l off->bK P w0 S0 E L (.iptr l (off+k.toNat*sz)) w (Instr.indexAt t v (.int j k))) /\
  (∀i off,x=.ptr i off->bK P w0 S0 E L (.ptr i (off+k.toNat*sz)) w (Instr.indexAt t v (.int j k))):=by
 have a:∀b o,(Instr.indexAt t (.pointer (some ⟨b,o,none⟩)) (.int j k)).run P w=.ok (.pointer (some ⟨b,o+k.toNat*sz,none⟩)) w:=λb o=>by simp[Instr.indexAt,asIntOf,run_underlying hd,f,h,bi g,Addr.add_mk,Instr.sureAddr]
 refine⟨λl off e=>?_,λi off e=>?_⟩<;>subst e<;>simp only[VR]at c;obtain⟨b,o,rfl,p⟩:=c;exact .same d (a _ _) ⟨b,o,by rw[afm],p⟩;obtain⟨c',m,rfl⟩:=c;exact .same d (a _ _) ⟨c',m,by rw[afm]⟩
theorem Xt{t:TypeId}{s:List UInt8}{v:Value}{j:IntKind}{k:Int}(e:Rel w0 S0 E L w)(hd:P.underlying t=some .string)(c:VR E (.str s) v)(d:0<=k)(f:k<s.length):
  bK P w0 S0 E L (.int .u8 (s.getD k.toNat 0).toNat) w (Instr.index t v (.int j k)):=by
 simp only[VR]at c;subst c;have a:k.toNat<s.length:=ahd;refine .same e (v:=.int .u8 (s[k.toNat]).toNat) ?_ (by simp[VR,a]);have:(ByteArray.mk ⟨s⟩)[k.toNat]?=some s[k.toNat]:=by have b:k.toNat<(ByteArray.mk ⟨s⟩).size:=a;rw[getElem?_pos (ByteArray.mk ⟨s⟩) k.toNat b];rfl
 simp[Instr.index,asIntOf,run_underlying hd,d,this]
theorem R3{l:List AV}{i:Nat}{x:AV}{v:Value}(b:Rel w0 S0 E L w)(e:VR E (.tup l) v)(h:l[i]?=some x):bK P w0 S0 E L x w (Instr.extract v i):=by obtain⟨vs,rfl,a⟩:=e;obtain⟨y,c,d⟩:=a.get h;exact .same b (v:=y) (by simp[Instr.extract,c]) d
end
section
variable {P:Program}{w0:World}{S0:SB}{E:Env}{L:List Blk}{w:World}{T:Tm}{a:Act}
abbrev L6(a:Act)(x:Option Operand)(r:Option Int):Prop:=(x=none/\r=none)\/∃o k n,x=some o/\r=some n/\a.eval o=.int k n
theorem R0{t e:TypeId}{v:Value}{i j:Option Operand}{d c:Option Int}{sz:Nat}(l:Rel w0 S0 E L w)(hd:P.underlying t=some (.slice e))(k:bG P e=some sz)(h:VR E .nilsl v)(f:L6 a i d)(g:L6 a j c)(n:d.getD 0=0)(o:c.getD 0=0):bK P w0 S0 E L .nilsl w (Instr.sliceAt t v (i.map a.eval) (j.map a.eval) none):=by
 simp only[VR]at h;subst h;have m:=fC (P:=P) (w:=w) (b:=true) (len:=0) (cap:=0) f g ahd (by simp only[Int.natCast_zero];omega) (by simp only[Int.natCast_zero];omega) (aek _);refine .same l (v:=.slice none 0 0) ?_ (by simp[VR]);simp only[Instr.sliceAt,Instr.slice,aer,run_underlying hd,aes,m,bi k,aeP];simp[*]
theorem PM{t e:TypeId}{v:Value}{r s:Option Operand}{f g:Option Int}{sz n:Nat}{x:AV}(C:Rel w0 S0 E L w)(hd:P.underlying t=some (.slice e))(H:bG P e=some sz)(B:VR E x v)(u:L6 a r f)(z:L6 a s g)(J:0<=f.getD 0)(I:f.getD 0<=g.getD n):
  (∀ l cap,x=.sl l n cap->g.getD n<=n->bK P w0 S0 E L (.sl ((l.drop ((f.getD 0).toNat * sz)).take (((g.getD n).toNat - (f.getD 0).toNat) * sz)) ((g.getD n).toNat - (f.getD 0).toNat) (cap.map (· - (f.getD 0).toNat))) w
   (Instr.sliceAt t v (r.map a.eval) (s.map a.eval) none)) /\
  (∀ i off cap,x=.lsl i off n cap sz->g.getD n<=((cap.getD n:Nat):Int)->bK P w0 S0 E L (.lsl i (off+(f.getD 0).toNat * sz) ((g.getD n).toNat - (f.getD 0).toNat) (cap.map (· - (f.getD 0).toNat)) sz) w
   (Instr.sliceAt t v (r.map a.eval) (s.map a.eval) none)):=by
 have h:∀p,n=0->g.getD n<=n->(Instr.sliceAt t (.slice p 0 0) (r.map a.eval) (s.map a.eval) none).run P w=.ok (.slice p 0 0) w:=λp O j=>by
  subst O;have F:=fC (P:=P) (w:=w) (b:=true) (len:=0) (cap:=0) u z J I j (aek _);simp only[Instr.sliceAt,Instr.slice,aer,run_underlying hd,aes,F,bi H,aeP]
  grind
 have y:∀b o c,n<=c->g.getD n<=c->(Instr.sliceAt t (.slice (some ⟨b,o,none⟩) n c) (r.map a.eval) (s.map a.eval) none).run P w =
   .ok (.slice (some ⟨b,if c=(f.getD 0).toNat then o else o+(f.getD 0).toNat*sz,none⟩) ((g.getD n).toNat-(f.getD 0).toNat) (c-(f.getD 0).toNat)) w:=λb o c T j=>by
  have F:=fC (P:=P) (w:=w) (b:=true) (len:=n) (cap:=c) u z J I j T;simp only[Instr.sliceAt,Instr.slice,aer,run_underlying hd,aes,F,bi H,aeP];split<;>simp[Addr.add_mk]
 refine⟨λl cap K j=>?_,λi off cap K j=>?_⟩<;>subst K<;>simp only[VR]at B;obtain⟨p,c,rfl,g1,G,g3⟩:=B;rcases g3 with⟨rfl,rfl,rfl⟩|⟨b,o,rfl,g3⟩;have R:(f.getD 0).toNat=0:=ahd;have N:(g.getD ((0:Nat):Int)).toNat=0:=ahd;refine .same C (h p rfl j) ?_;rw[R,N];refine⟨p,0,rfl,aek _,λk m=>?_,.inl ⟨rfl,rfl,ahe⟩⟩;simp_all;refine .same C (y b o c g1 ahd) ?_;refine⟨_,_,rfl,ahd,λk m=>?_,.inr ⟨b,_,rfl,?_⟩⟩;cases cap with
 |none=>simp at m
 |some q=>simp at m;rw[G q rfl];exact m
 by_cases S:c=(f.getD 0).toNat;have:(g.getD n).toNat-(f.getD 0).toNat=0:=ahd;rw[this];simp[VRC];rw[if_neg S];exact(g3.drop _).take _;obtain⟨c,A,d,M,rfl,g1,G,g3,g4⟩:=B;have D:g.getD n<=A:=by
  cases cap with
  |none=>simp at j;omega
  |some q=>simp at j;rw[g3 q rfl];exact j
 refine .same C (y c.blk d A G D) ?_;refine⟨c,_,_,M,rfl,λQ=>?_,ahd,λk m=>?_,?_⟩
 grind
 cases cap with
 |none=>simp at m
 |some q=>simp at m;rw[g3 q rfl];exact m
 have U:(f.getD 0).toNat*sz+(A-(f.getD 0).toNat)*sz=A*sz:=by rw[<- afn];congr 1;omega
 omega
theorem Rr{t e:TypeId}{v:Value}{f:Option Operand}{i q:Operand}{d:Option Int}{h m:Int}{x A:IntKind}{sz n:Nat}{l:List AV}{cap:Option Nat}(s:Rel w0 S0 E L w)(hd:P.underlying t=some (.slice e))(r:bG P e=some sz)(z:VR E (.sl l n cap) v)(j:L6 a f d)(k:a.eval i=.int x h)(g:a.eval q=.int A m)(D:0<=d.getD 0)(y:d.getD 0<=h)(J:h<=n)(K:h<=m)(h4:m<=n):
  bK P w0 S0 E L (.sl ((l.drop ((d.getD 0).toNat*sz)).take ((h.toNat-(d.getD 0).toNat)*sz)) (h.toNat-(d.getD 0).toNat) (some (m.toNat-(d.getD 0).toNat))) w
   (Instr.sliceAt t v (f.map a.eval) (some (a.eval i)) (some (a.eval q))):=by
 obtain⟨p,c,rfl,g1,M,g3⟩:=z;have u:(Instr.sliceBounds true n c (f.map a.eval) (some (a.eval i)) (some (a.eval q))).run P w=.ok ((d.getD 0).toNat,h.toNat,m.toNat) w:=by simp only[Instr.sliceBounds,k,g,aer,if_true];rw[bD ahd ahd];simp only[aes,aer];rw[bD ahd ahd];simp only[aes];rcases j with⟨rfl,rfl⟩|⟨o1,H,I,rfl,rfl,C⟩;simp;simp only[afB]at D y;simp only[aeC,C,aer];rw[bD ahd ahd];simp
 rcases g3 with⟨rfl,rfl,rfl⟩|⟨b,o,rfl,g3⟩;have F:(d.getD 0).toNat=0:=ahd;have B:h.toNat=0:=ahd;have z3:m.toNat=0:=ahd;refine .same s (v:=.slice p 0 0) ?_ ?_;simp only[Instr.sliceAt,Instr.slice,aer,run_underlying hd,aes,u,bi r,aeP];simp[*];simp only[VR];rw[F,B,z3]
 grind
 refine .same s (v:=.slice (some ⟨b,if m.toNat=(d.getD 0).toNat then o else o+(d.getD 0).toNat*sz,none⟩) (h.toNat-(d.getD 0).toNat) (m.toNat-(d.getD 0).toNat)) ?_ ?_;simp only[Instr.sliceAt,Instr.slice,aer,run_underlying hd,aes,u,bi r,aeP];split<;>simp[Addr.add_mk];refine⟨_,_,rfl,ahd,ahe,.inr ⟨b,_,rfl,?_⟩⟩;by_cases G:m.toNat=(d.getD 0).toNat;have:h.toNat-(d.getD 0).toNat=0:=ahd;rw[this];simp[VRC];rw[if_neg G];exact(g3.drop _).take _
theorem U8{t e:TypeId}{v:Value}{f:Option Operand}{j p:Operand}{b:Option Int}{h m:Int}{u y:IntKind}{sz n i off:Nat}{cap:Option Nat}(z:Rel w0 S0 E L w)(hd:P.underlying t=some (.slice e))(s:bG P e=some sz)(r:VR E (.lsl i off n cap sz) v)(l:L6 a f b)(o:a.eval j=.int u h)(g:a.eval p=.int y m)(D:0<=b.getD 0)(x:b.getD 0<=h)(K:h<=m)(h4:m<=((cap.getD n:Nat):Int)):
  bK P w0 S0 E L (.lsl i (off+(b.getD 0).toNat*sz) (h.toNat-(b.getD 0).toNat) (some (m.toNat-(b.getD 0).toNat)) sz) w
   (Instr.sliceAt t v (f.map a.eval) (some (a.eval j)) (some (a.eval p))):=by
 simp only[VR]at r;obtain⟨c,k,d,A,rfl,g1,N,g3,g4⟩:=r;have B:m<=k:=by
  cases cap with
  |none=>simp at h4;omega
  |some q=>simp at h4;rw[g3 q rfl];exact h4
 have F:(Instr.sliceBounds true n k (f.map a.eval) (some (a.eval j)) (some (a.eval p))).run P w=.ok ((b.getD 0).toNat,h.toNat,m.toNat) w:=by simp only[Instr.sliceBounds,o,g,aer,if_true];rw[bD ahd ahd];simp only[aes,aer];rw[bD ahd ahd];simp only[aes];rcases l with⟨rfl,rfl⟩|⟨o1,I,J,rfl,rfl,C⟩;simp;simp only[afB]at D x;simp only[aeC,C,aer];rw[bD ahd ahd];simp
 refine .same z (v:=.slice (some ⟨c.blk,if m.toNat=(b.getD 0).toNat then d else d+(b.getD 0).toNat*sz,none⟩) (h.toNat-(b.getD 0).toNat) (m.toNat-(b.getD 0).toNat)) ?_ ?_;simp only[Instr.sliceAt,Instr.slice,aer,run_underlying hd,aes,F,bi s,aeP];split<;>simp[Addr.add_mk];simp only[VR];refine⟨c,_,_,A,rfl,λG=>?_,ahd,ahe,?_⟩
 grind
 have M:(b.getD 0).toNat*sz+(m.toNat-(b.getD 0).toNat)*sz=m.toNat*sz:=by rw[<- afn];congr 1;omega
 have H:m.toNat*sz<=k*sz:=afA _ ahd;omega
theorem TB{t e:TypeId}{v:Value}{h j:Option Operand}{d f:Option Int}{sz n:Nat}{x:AV}(m:Rel w0 S0 E L w)(hd:P.underlying t=some (.array n e))(y:bG P e=some sz)(k:VR E x v)(p:L6 a h d)(q:L6 a j f)(B:0<=d.getD 0)(z:d.getD 0<=f.getD n)(C:f.getD n<=n):
  (∀ l off,x=.iptr l off->bK P w0 S0 E L (.sl ((l.drop (off+(d.getD 0).toNat * sz)).take (((f.getD n).toNat - (d.getD 0).toNat) * sz)) ((f.getD n).toNat - (d.getD 0).toNat) (some (n - (d.getD 0).toNat))) w
   (Instr.sliceAt t v (h.map a.eval) (j.map a.eval) none)) /\
  (∀ i off l,x=.ptr i off->L[i]?=some (.cells l)->off+n * sz<=l.length->bK P w0 S0 E L (.lsl i (off+(d.getD 0).toNat * sz) ((f.getD n).toNat - (d.getD 0).toNat) (some (n - (d.getD 0).toNat)) sz) w
   (Instr.sliceAt t v (h.map a.eval) (j.map a.eval) none)):=by
 have g:∀b o,(Instr.sliceAt t (.pointer (some ⟨b,o,none⟩)) (h.map a.eval) (j.map a.eval) none).run P w =
   .ok (.slice (some ⟨b,if n=(d.getD 0).toNat then o else o+(d.getD 0).toNat*sz,none⟩) ((f.getD n).toNat-(d.getD 0).toNat) (n-(d.getD 0).toNat)) w:=λb o=>by
  have D:=fC (P:=P) (w:=w) (b:=false) (len:=n) (cap:=n) p q B z C (aek _);simp only[Instr.sliceAt,aer,run_underlying hd,aes,Instr.sureAddr,D,bi y,aeP];split<;>simp[Addr.add_mk]
 refine⟨λl off u=>?_,λi off l u H A=>?_⟩<;>subst u<;>simp only[VR]at k;obtain⟨b,o,rfl,g3⟩:=k;refine .same m (g b _) ?_;refine⟨_,_,rfl,ahd,ahe,.inr ⟨b,_,rfl,?_⟩⟩;by_cases G:n=(d.getD 0).toNat;have:(f.getD n).toNat-(d.getD 0).toNat=0:=ahd;rw[this];simp[VRC];rw[if_neg G,afm];exact(g3.drop _).take _;obtain⟨c,s,rfl⟩:=k;obtain⟨c',cs,ty,fr,r,J,K,O,N,I⟩:=m.blk i _ H;rw[s]at r;cases r;refine .same m (g c.blk _) ?_;refine⟨c,_,_,s,rfl,λF=>?_,ahd,ahe,?_⟩
 grind
 have M:(d.getD 0).toNat*sz+(n-(d.getD 0).toNat)*sz=n*sz:=by rw[<- afn];congr 1;omega
 omega
theorem kc(z:Array Value)(n:Nat):(Builtin.zeroCells z n).size=n*z.size:=by simp[Builtin.zeroCells]
theorem Rel.draw(a:Rel w0 S0 E L w)(n:Nat):Rel w0 S0 E L {w with drawn:=n}:=
 ⟨a.mem,λi k b=>bf.world (λ_ _=>rfl) (λ_ _ _ _=>rfl) (a.blk i k b),a.fresh,a.own,a.inj,a.tkfresh,a.tkown,a.tkloc,a.tkinj,a.frame,a.size,a.os,a.tape,a.output,a.glob,a.gsz⟩
theorem jZ{t u e ty:TypeId}{sz n m c:Nat}{base:Option Addr}{x:Value}{cs:List Value}(j:P.underlying t=some (.slice e))(d:(∃f,P.underlying u=some (.slice f))\/P.underlying u=some .string)(g:bG P e=some sz)(h:(Builtin.lenOf x).run P w=.ok n w)(i:(Builtin.firstCells sz n x).run P w=.ok ⟨cs⟩ w)(a:m+n<=c):
  (Builtin.append_ #[t,u] ty #[.slice base m c,x]).run P w=match base with
   |none=>.ok (.slice base (m+n) c) w
   |some b=>((storeCells (b.add (m*sz)) cs).run P w).andThen λ_ w'=>.ok (.slice base (m+n) c) w':=by
 unfold Builtin.append_;rcases d with⟨f,d⟩|d
 all_goals
  simp only[agc,afc,ags,aer,run_underlying j,run_underlying d,aes,aeP,bi g,aeE,if_false,h,if_pos a,agI,if_true,i];cases base with
  |none=>simp
  |some b=>simp
theorem vJ{t u e ty:TypeId}{sz b n m c:Nat}{base:Option Addr}{x z:Value}{cs os:List Value}(H:P.underlying t=some (.slice e))(k:(∃v,P.underlying u=some (.slice v))\/P.underlying u=some .string)(A:bG P e=some sz)(y:Qm P e=some b)(E:∀W,(zeroValue e).run P W=.ok z W)(l:z.cells.size=sz)(B:(Builtin.lenOf x).run P w=.ok n w)(G:(Builtin.firstCells sz n x).run P {w with drawn:=w.drawn+1}=.ok ⟨cs⟩ {w with drawn:=w.drawn+1})(I:(Builtin.firstCells sz m (.slice base m c)).run P {w with drawn:=w.drawn+1}=.ok ⟨os⟩ {w with drawn:=w.drawn+1})(p:c<m+n)(j:(m+n)*b<=140737488355328)(q:m+n<=140737488355328):
  ∃a rest,m+n<=a/\rest.length=(a-(m+n))*sz/\(Builtin.append_ #[t,u] ty #[.slice base m c,x]).run P w =
   .ok (.slice (some ⟨w.heap.size,0,none⟩) (m+n) a) {w with heap:=w.heap.push (.cells ⟨(os++cs)++rest⟩ e),drawn:=w.drawn+1}:=by
 obtain⟨a,g⟩:∃a,a=(Question.appendCap (m+n) c e).cut (w.tape w.drawn (.appendCap (m+n) c e)):=⟨_,rfl⟩;have r:m+n<=a:=by rw[g];simp[Question.cut]
 refine⟨a,(Builtin.zeroCells z.cells (a-(m+n))).toList,r,by simp[kc,l],?_⟩;obtain⟨i,D,o⟩:∃i,P.info? e=some i/\i.bytes=b:=by unfold Qm at y;simpa using y
 have h:∀W,(typeInfo e).run P W=.ok i W:=λW=>by simp[typeInfo,D]
 have s:=growslice_fits (need:=m+n) (old:=c) (bytes:=b) p j;have f:IntKind.i64.max=9223372036854775807:=by decide
 have F:¬(((m+n:Nat):Int)>IntKind.i64.max/\(False\/i.bytes=0)):=by rw[f];omega
 have C:¬(Builtin.nextslicecap (m+n) c*i.bytes>2^48):=by rw[o];omega
 unfold Builtin.append_;rcases k with⟨v,k⟩|k
 all_goals
  simp only[agc,afc,ags,aer,run_underlying H,run_underlying k,aes,aeP,bi A,aeE,if_false,B,if_neg (show ¬(m+n<=c)by omega),h,agI,if_true];simp only[if_neg F,if_neg C,h,aeP,aes,aer,run_choose,Question.forced,aeE,if_false,<- g,run_askRoom,I,G,E,newRow,run_newObj];have d:((⟨os⟩:Array Value)++(⟨cs⟩:Array Value)++Builtin.zeroCells z.cells (a-(m+n)))=⟨(os++cs)++(Builtin.zeroCells z.cells (a-(m+n))).toList⟩:=by simp
  rw[d]
theorem Zv{own:Nat}{t u e ty:TypeId}{sz bb:Nat}{z:List AV}{x y av:AV}{p v:Value}{c:Prop}{L':List Blk}(D:Rel w0 S0 E L w)(ht:P.underlying t=some (.slice e))(hu:(∃e',P.underlying u=some (.slice e'))\/P.underlying u=some .string)(hs:bG P e=some sz)(hb:Qm P e=some bb)(hz:zOf P e=some z)(cm:z.length=sz)(hx:VR E x p)(hy:VR E y v)(h:app own sz bb L x y=some (c,av,L'))(hc:c):
  bK P w0 S0 E L' av w (Builtin.append_ #[t,u] ty #[p,v]):=by
 have B:Rel w0 S0 E L {w with drawn:=w.drawn+1}:=D.draw _;obtain⟨zv,a8,ct,_⟩:=JG (E:=E) hz;have a5:zv.cells.size=sz:=by have:=ct.length;simpa[cm]using this
 unfold app at h;split at h;cases h;rename_i c1 new n H;have fresh:∀(g:List AV) (os cs:List Value) (m r:Nat) (rest:List Value),VRL E g os->VRL E new cs->g.length=m*sz->new.length=n*sz->m+n<=r->rest.length=(r-(m+n))*sz->∀(L0:List Blk),Rel w0 S0 E L0 {w with drawn:=w.drawn+1} ->
   (∃E',E.le E'/\VR E' (.lsl L0.length 0 (m+n) none sz) (.slice (some ⟨w.heap.size,0,none⟩) (m+n) r)/\Rel w0 S0 E' (L0++[.cells (g++new)]) {w with heap:=w.heap.push (.cells ⟨(os++cs)++rest⟩ e),drawn:=w.drawn+1}):=by
  intro g os cs m r rest ho hn cy ci bs hr L0 ch;have bd:=ho.append hn
  .obtain⟨E',K,U,r3⟩:=sg ch bd rest e (0,0) ahe;refine⟨E',K,?_,r3⟩;simp only[VR];refine⟨_,r,0,U,rfl,ahe,bs,ahe,?_⟩;have O:=ho.length;have M:=hn.length;have:(m+n)*sz+(r-(m+n))*sz=r*sz:=by rw[<- afn];congr 1;omega
   grind
 have grown:∀(g:List AV) (os cs:List Value) (m r:Nat) (rest:List Value),VRL E g os->VRL E new cs->g.length=m*sz->new.length=n*sz->m+n<=r->rest.length=(r-(m+n))*sz ->
   ∃E',E.le E'/\Rel w0 S0 E' L {w with heap:=w.heap.push (.cells ⟨(os++cs)++rest⟩ e),drawn:=w.drawn+1}/\VRC E' (g++AV.frzL new) w.heap.size 0/\E'.tok=E.tok /\
    ∀i,(L++[Blk.dead])[i]?≠none->XU w0 S0 E' L {w with heap:=w.heap.push (.cells ⟨(os++cs)++rest⟩ e),drawn:=w.drawn+1} i (m+n) sz (some ⟨w.heap.size,0,r*sz⟩):=by
  intro g os cs m r rest ho hn cy ci bs hr;have cq:=VRL.frz _ _ hn;have bd:=ho.append cq;obtain⟨E',K,U,r3,r4,r5,r6⟩:=B.imm' (os++cs) e (g++AV.frzL new) bd rest (0,0);have O:=ho.length;have M:=hn.length;have h4:(m+n)*sz+(r-(m+n))*sz=r*sz:=(by rw[<- afn];congr 1;omega);have S:(m+n)*sz=m*sz+n*sz:=afn _ _ _;refine⟨E',K,U,r3,r5,λi _ k I=>?_⟩;cases I;refine⟨⟨_,e,(0,0),by simp;rfl,?_,ahe⟩,λo c7=>r6 o (by simp only[aez];omega),.inr D.size,λj k' c A hl cp=>?_,λj n' c5 t' k' _ A ck bo=>?_⟩
  .simp only[List.size_toArray,aez];omega
  .have:=D.loc_lt A hl (by rw[<- r4];exact cp);simp only;omega
  .have:=D.tok_lt A (by rw[<- r5];exact ck) bo;simp only;omega
 have keep:∀{i:Nat}{k:Blk},L[i]?=some k->(L++[Blk.dead])[i]?≠none:=λ{i k} hi=>by have:=(aei.1 hi).1;simp;omega
 have al:(AV.frzL new).length=new.length:=AV.frzL_length _;split at h;rename_i l m k;have C:=hx;simp only[VR]at C;obtain⟨X,c',rfl,g1,g2,g3⟩:=C;have:=g2 k rfl;subst this;by_cases ad:own=2;subst ad;simp only[reduceIte,Nat.reduceEqDiff]at h;split at h;rename_i F;subst F;simp only[aej,aet]at h;obtain⟨rfl,rfl,rfl⟩:=h;obtain⟨O,M,cs,S,h4⟩:=aZ (P:=P) D hy H hc.1;have:cs=[]:=by have:=S.length;simp at M;simpa[M]using this
 subst this;refine .same D (v:=.slice X m c') ?_ hx;rw[jZ (ty:=ty) ht hu hs O h4 ahd];cases X<;>simp[storeCells];rename_i F;simp only[aej,aet,Qr]at h;obtain⟨rfl,rfl,rfl⟩:=h;obtain⟨k1,k2,W,k4,k5⟩:=hc;subst k2;obtain⟨O,M,_,_,_⟩:=aZ (P:=P) D hy H k1;obtain⟨_,_,cs,S,h4⟩:=aZ (P:=P) B hy H k1;obtain⟨_,_,os,q3,q4⟩:=aZ (P:=P) (sz:=sz) (c:=l.length=m*sz) (l:=l) (n:=m) B hx rfl W;obtain⟨r,rest,j1,j2,j3⟩:=vJ (P:=P) (w:=w) (ty:=ty) (m:=m) (c:=m) (base:=X) (os:=os) ht hu hs hb a8 a5 O h4 q4 ahd k4 k5;obtain⟨E1,a1,a2,a3⟩:=fresh l os cs m r rest q3 S W M j1 j2 L B;exact⟨E1,_,_,j3,a1,a2,a3⟩;simp only[if_neg ad]at h;have c2:c1/\m=c'/\l.length=m*sz/\(m+n)*bb<=140737488355328/\m+n<=140737488355328:=by split at h<;>simp only[aej,aet]at h<;>obtain⟨rfl,_⟩:=h<;>exact hc
 obtain⟨k1,k2,W,k4,k5⟩:=c2;subst k2;obtain⟨O,M,J,Y,a6⟩:=aZ (P:=P) D hy H k1;have a0:(m+n)*sz=m*sz+n*sz:=afn _ _ _;rcases afy n with F|F;subst F;have N:new=[]:=by simpa using M
 subst N;have:J=[]:=by have:=Y.length;simpa using this
 subst this;have f:(Builtin.append_ #[t,u] ty #[.slice X m m,v]).run P w=.ok (.slice X m m) w:=by rw[jZ (ty:=ty) ht hu hs O a6 ahd];cases X<;>simp[storeCells]
 split at h<;>simp only[aej,aet]at h<;>obtain⟨rfl,rfl,rfl⟩:=h;obtain⟨K,U⟩:=D.addtok (n:=m+0) (sz:=sz) (lc:=none) MI;refine⟨_,_,_,f,K,?_,U⟩;simp only[VR,AV.frzL,aeL,afC];refine⟨X,m,rfl,aek _,W,g3.imp id λ⟨b,o,q1,q2⟩=>⟨b,o,q1,VRC.mono K _ _ _ q2⟩,⟨m+0,sz,none⟩,ahe,ahe,λ_=>⟨rfl,λ_=>rfl,ahe⟩⟩;refine .same D f ?_;simp only[VR,AV.frzL,aeL,afC];exact⟨X,m,rfl,aek _,ahe,g3⟩;obtain⟨_,_,cs,S,h4⟩:=aZ (P:=P) B hy H k1;obtain⟨_,_,os,q3,q4⟩:=aZ (P:=P) (sz:=sz) (c:=l.length=m*sz) (l:=l) (n:=m) B hx rfl W;obtain⟨r,rest,j1,j2,j3⟩:=vJ (P:=P) (w:=w) (ty:=ty) (m:=m) (c:=m) (base:=X) (os:=os) ht hu hs hb a8 a5 O h4 q4 ahd k4 k5;obtain⟨E2,b1,b2,b3,b5,b4⟩:=grown l os cs m r rest q3 S W M j1 j2;split at h<;>simp only[aej,aet]at h<;>obtain⟨rfl,rfl,rfl⟩:=h;obtain⟨K,U⟩:=b2.addtok (n:=m+n) (sz:=sz) (b4 L.length ahe);refine⟨_,_,_,j3,b1.trans K,?_,U⟩;simp only[VR];exact⟨_,r,rfl,j1,by simp only[aez,al];omega,.inr ⟨_,0,rfl,VRC.mono K _ _ _ b3⟩,⟨m+n,sz,some ⟨w.heap.size,0,r*sz⟩⟩,ahe,ahe,λ_=>⟨rfl,ahe,λk I=>by cases I;exact⟨rfl,aek _⟩⟩⟩;refine⟨E2,_,_,j3,b1,?_,b2⟩;simp only[VR];exact⟨_,r,rfl,j1,ahe,.inr ⟨_,0,rfl,b3⟩⟩;rename_i l m i s;split at h;rename_i Q s' T;simp only[aej,aet]at h;obtain⟨rfl,rfl,rfl⟩:=h;obtain⟨k1,R,rfl,rfl,rfl,k4,k5⟩:=hc;obtain⟨c0,W⟩:=hx.gsl_sl;have C:=hx;simp only[VR]at C;obtain⟨X,G,rfl,g1,_,g3,tk,g4,g5,g6⟩:=C;obtain⟨c8,e1,e2,e3,e4⟩:=D.blk i _ T;rw[g4]at e1;cases e1;obtain⟨g7,g8,g9⟩:=g6 e2.symm;obtain⟨O,M,J,Y,a6⟩:=aZ (P:=P) D hy H k1;have a0:(Q+n)*s'=Q*s'+n*s':=afn _ _ _;rcases afy n with F|F;subst F;have N:new=[]:=by simpa using M
 subst N;have:J=[]:=by have:=Y.length;simpa using this
 subst this;have f:(Builtin.append_ #[t,u] ty #[.slice X Q G,v]).run P w=.ok (.slice X Q G) w:=by rw[jZ (ty:=ty) ht hu hs O a6 ahd];cases X<;>simp[storeCells]
 refine .same ?_ f ?_;have:L.set i (.spare (Q+0) s')=L:=by apply afj;intro j;rw[aeV];split;rename_i e;subst e;rw[T];have:=(aei.1 T).1;simp[this];rfl
 rw[this];exact D;simpa[AV.frzL]using hx;by_cases q:Q+n<=G;have b7:∃k,tk.loc=some k:=by rcases hq:tk.loc with _|k;have:=g8 hq;omega;exact⟨k,rfl⟩
 obtain⟨k,I⟩:=b7;obtain⟨rfl,c4⟩:=g9 k I;obtain⟨b_,cg,cn,b1,b2,b3⟩:=e4 k I;have ab:=Y.length;have co:(Q+n)*s'<=G*s':=afA _ q;obtain⟨w',V,K,U,r3,r4,r5,r6,r7,r8,r9⟩:=iZ (P:=P) (b:=k.blk) (ty:=cg) (fr:=cn) J w b_ (0+Q*s') 0 b1 (λv hv=>by obtain⟨j,A⟩:=afT.1 hv;have an:j<new.length:=(by have:=(aei.1 A).1;omega);obtain⟨y,h7,h8⟩:=Y.get (aeF an);rw[A]at h7;cases h7;exact h8.one (aev.1 R _ (afx an))) ahd (λo h7 h8=>b3 o ahd ahd)
 have f:(Builtin.append_ #[t,u] ty #[.slice (some ⟨k.blk,0,none⟩) Q G,v]).run P w=.ok (.slice (some ⟨k.blk,0,none⟩) (Q+n) G) w':=by rw[jZ (ty:=ty) ht hu hs O a6 q];simp only[Addr.add_mk,K,aes]
 obtain⟨E',q1,q2,q3,q4⟩:=D.tokwrite (w':=w') T g4 I (n:=Q+n) ahd b1 U r3 r4 r5 r6 r7 r8 (λo ho=>by rw[r9,if_neg ahd]);refine⟨E',_,_,f,q1,?_,q2⟩;simp only[VR];refine⟨_,G,rfl,q,by simp only[aez,al];omega,.inr ⟨k.blk,0,rfl,VRC.of_get λj a Z=>?_⟩,_,q3,aek _,λ_=>⟨rfl,ahe,λk' bo=>by cases bo;exact⟨rfl,c4⟩⟩⟩;rw[afz]at Z;split at Z;rename_i A;rcases g3 with⟨_,_,e⟩|⟨b,o,e,g3⟩;subst e;simp at A;cases e;obtain⟨y,f1,f2⟩:=(VRC.mono q1 _ _ _ g3).get Z;exact⟨y,f1,f2⟩;rename_i A;obtain⟨y,f1,f2⟩:=(VRL.frz _ _ Y).get Z;have ca:=(aei.1 Z).1;refine⟨y,?_,VR.mono q1 _ _ f2⟩;rw[q4 _ ahd ahd,r9,if_pos ahd,<- f1];congr 1;omega;obtain⟨_,_,cs,S,h4⟩:=aZ (P:=P) B hy H k1;obtain⟨_,_,os,q3,q4⟩:=aZ (P:=P) (sz:=s') (c:=l.length=Q*s') (l:=l) (n:=Q) B c0 rfl W;obtain⟨r,rest,j1,j2,j3⟩:=vJ (P:=P) (w:=w) (ty:=ty) (m:=Q) (c:=G) (base:=X) (os:=os) ht hu hs hb a8 a5 O h4 q4 ahd k4 k5;obtain⟨E2,b1,b2,b3,b5,b4⟩:=grown l os cs Q r rest q3 S W M j1 j2;obtain⟨K,U⟩:=b2.settok (n:=Q+n) (sz:=s') ⟨_,_,T⟩ (λt2 a7=>by rw[b5,g4]at a7;cases a7;omega) (b4 i (keep T))
 refine⟨_,_,_,j3,b1.trans K,?_,U⟩;simp only[VR];exact⟨_,r,rfl,j1,by simp only[aez,al];omega,.inr ⟨_,0,rfl,VRC.mono K _ _ _ b3⟩,⟨Q+n,s',some ⟨w.heap.size,0,r*s'⟩⟩,ahe,ahe,λ_=>⟨rfl,ahe,λk I=>by cases I;exact⟨rfl,aek _⟩⟩⟩;cases h;rename_i i off m cap s;split at h;rename_i l T;split at h;rename_i cd;subst cd;by_cases ap:own=4;rw[if_pos ap]at h;rcases cap with _|cb;cases h;simp only[aej,aet]at h;obtain⟨rfl,rfl,rfl⟩:=h;obtain⟨k1,R,k2,W⟩:=hc;have C:=hx;simp only[VR]at C;obtain⟨cl,G,d,g0,rfl,g1,g2,g3,g4⟩:=C;have bx:=g3 cb rfl;subst bx;obtain⟨O,M,cs,S,h4⟩:=aZ (P:=P) D hy H k1;have a0:(m+n)*s=m*s+n*s:=afn _ _ _;have ab:=S.length;obtain⟨w',K,U⟩:∃w',(storeCells ((⟨cl.blk,d,none⟩:Addr).add (m*s)) cs).run P w=.ok () w'/\Rel w0 S0 E (L.set i (.cells (bP l (off+m*s) new))) w':=by
  by_cases bk:G=0;have F:n=0:=ahd;subst F;have N:new=[]:=ae2.1 (by rw[M];simp);subst N;have ai:cs=[]:=(by simpa using ab);subst ai;refine⟨w,by simp[storeCells],?_⟩;have e1:bP l (off+m*s) []=l:=(by simp[bP]);rw[e1];have e2:L.set i (.cells l)=L:=by apply afj;intro j;rw[aeV];split;rename_i e;subst e;rw[T];have:=(aei.1 T).1;simp[this];rfl
  rw[e2];exact D;have hd:=g1 bk;subst hd;rw[Addr.add_mk,afm];exact JM (P:=P) (off:=off+m*s) D T g0 S (λx hx=>aev.1 R x hx) (by rw[M];omega)
 have f:(Builtin.append_ #[t,u] ty #[.slice (some ⟨cl.blk,d,none⟩) m G,v]).run P w=.ok (.slice (some ⟨cl.blk,d,none⟩) (m+n) G) w':=by rw[jZ (ty:=ty) ht hu hs O h4 W];simp only[K,aes]
 refine⟨E,_,w',f,.refl E,?_,U⟩;simp only[VR];exact⟨cl,G,d,g0,rfl,g1,W,g3,g4⟩;rw[if_neg ap]at h;simp only[aej,aet,Qr]at h;obtain⟨rfl,rfl,rfl⟩:=h;obtain⟨k1,R,k2,W,k4⟩:=hc;have C:=hx;simp only[VR]at C;obtain⟨cl,G,d,g0,rfl,g1,g2,g3,g4⟩:=C;obtain⟨O,M,cs,S,h4⟩:=aZ (P:=P) D hy H k1;by_cases q:m+n<=G;have a_:((l.drop off).take (m*s)).length=m*s:=by simp;omega
 obtain⟨c6,J,bl,fr,b1,b2,b3,b4,b5,b6⟩:=D.blk i _ T;rw[g0]at b1;cases b1;have a9:=D.own i _ cl T rfl g0;have ab:=S.length;have a0:(m+n)*s=m*s+n*s:=afn _ _ _;have co:(m+n)*s<=G*s:=afA _ q;have hd:(some (⟨cl.blk,d,none⟩:Addr)).map (·.add (m*s))=some ⟨cl.blk,d+m*s,none⟩:=by simp[Addr.add_mk]
 obtain⟨w',V,K,U,r3,r4,r5,r6,r7,r8,r9⟩:∃w' V,(storeCells ((⟨cl.blk,d,none⟩:Addr).add (m*s)) cs).run P w=.ok () w'/\w'.heap.size=w.heap.size/\(∀k,k≠cl.blk->w'.heap[k]?=w.heap[k]?)/\w'.os=w.os/\w'.tape=w.tape/\w'.output=w.output /\
   w'.heap[cl.blk]?=some (.cells V bl fr)/\V.size=J.size/\∀k,V[k]?=if cl.off+off+m*s<=k/\k<cl.off+off+m*s+cs.length then cs[k-(cl.off+off+m*s)]? else J[k]?:=by
  by_cases bk:G=0
  .have ai:cs=[]:=by
    have h0 : n * s = 0 := by have : n = 0 := by omega
                              rw[this];simp
    rw[M,h0]at ab;simpa using ab
   subst ai;exact⟨w,J,by simp[storeCells],rfl,λ_ _=>rfl,rfl,rfl,rfl,b2,rfl,λk=>by rw[if_neg ahe]⟩
  .have hd:=g1 bk;subst hd;rw[Addr.add_mk];have:=iZ (P:=P) (b:=cl.blk) (ty:=bl) (fr:=fr) cs w J (cl.off+off+m*s) 0 b2 (λv hv=>by obtain⟨j,A⟩:=afT.1 hv;have an:j<new.length:=(by have:=(aei.1 A).1;omega);obtain⟨y,h7,h8⟩:=S.get (aeF an);rw[A]at h7;cases h7;exact h8.one (aev.1 R _ (afx an))) ahd (λk h7 h8=>b6 k ahd ahd)
   simpa using this
 have f:(Builtin.append_ #[t,u] ty #[.slice (some ⟨cl.blk,d,none⟩) m G,v]).run P w=.ok (.slice (some ⟨cl.blk,d,none⟩) (m+n) G) w':=by rw[jZ (ty:=ty) ht hu hs O h4 q];simp only[K,aes]
 have I:=D.turn (w':=w') (k':=.dead) T rfl g0 U r3 r4 r5 r6 (by simp[bf]) ahe;have b0:=I.add (.cells ((l.drop off).take (m*s)++new)) ⟨cl.blk,cl.off+off,cl.size⟩ a9.1 a9.2 (λj k' d' A b' cf=>by
  rw[aeV]at A;split at A;split at A;cases A;simp[Blk.live]at b';cases A;rename_i bn;intro e;exact bn (D.inj _ _ _ _ _ _ T rfl A b' g0 cf e.symm)) rfl (λj n2 s2 t2 d A a7 c3=>D.tkloc j n2 s2 t2 d i _ cl (eR ahe A) a7 c3 T rfl g0) (by
  refine⟨⟨cl.blk,cl.off+off,cl.size⟩,V,bl,fr,ahe,r7,by simpa using r8.trans b3,by simp only[aez,a_];omega,λj a' Z=>?_,λo h5 h6=>b6 o (by simp at h5;omega) h6⟩;have a4:∀x y,VR E x y->VR {E with loc:=λi'=>if i'=(L.set i .dead).length then some ⟨cl.blk,cl.off+off,cl.size⟩else E.loc i'} x y:=λx y cx=>VR.mono (Env.le_loc _ (I.fresh _ (aek _))) _ _ cx
  show ∃v,V[cl.off+off+j]?=some v/\_;rw[r9];rw[afz]at Z;rw[a_]at Z;by_cases A:j<m*s;rw[if_pos A,aeS A,aeX]at Z;rw[if_neg ahd];obtain⟨x,e1,e2⟩:=b5 _ _ Z;exact⟨x,by rw[<- e1];congr 1;omega,a4 _ _ e2⟩;rw[if_neg A]at Z;have ca:=(aei.1 Z).1;rw[if_pos ahd];obtain⟨x,e1,e2⟩:=S.get Z;exact⟨x,by rw[<- e1];congr 1;omega,a4 _ _ e2⟩)
 refine⟨_,_,w',f,b0.1,?_,by simpa using b0.2⟩;simp only[VR];refine⟨⟨cl.blk,cl.off+off,cl.size⟩,G,d,ahe,rfl,λbn=>by simpa using g1 bn,q,ahe,?_⟩;simpa using g4;obtain⟨_,_,cs,S,h4⟩:=aZ (P:=P) B hy H k1;obtain⟨_,q2,os,q3,q4⟩:=aZ (P:=P) (sz:=s) (c:=off+m*s<=l.length) (l:=(l.drop off).take (m*s)) (n:=m) B hx (by simp only[elems,T]) k2;obtain⟨r,rest,j1,j2,j3⟩:=vJ (P:=P) (w:=w) (ty:=ty) (m:=m) (c:=G) (base:=some ⟨cl.blk,d,none⟩) (os:=os) ht hu hs hb a8 a5 O h4 q4 ahd W k4;have I:Rel w0 S0 E (L.set i .dead) {w with drawn:=w.drawn+1}:=B.kill ahe λj k I=>by rw[aeV]at I;split at I;split at I;cases I;exact .inl rfl;cases I;exact .inr I
 obtain⟨E1,a1,a2,a3⟩:=fresh _ os cs m r rest q3 S q2 M j1 j2 (L.set i .dead) I;exact⟨E1,_,_,j3,a1,by simpa using a2,a3⟩;cases h;cases h;cases h
theorem Xx{t u e ty:TypeId}{sz g i off m cp:Nat}{z l:List AV}{p v:Value}{j q:IntKind}{k:Int}(hR:Rel w0 S0 E L w)(ht:P.underlying t=some (.slice e))(hu:P.underlying u=some (.int j))(X:bG P e=some sz)(N:Qm P e=some g)(hz:zOf P e=some z)(H:z.length=sz)(M:VR E (.lsl i off m (some cp) sz) p)(T:VR E (.int q k) v)(hL:L[i]?=some (.cells l))(hc:0<=k/\k<=1099511627776/\cp<m+k.toNat/\off+m*sz<=l.length/\(m+k.toNat)*g<=140737488355328/\m+k.toNat<=140737488355328):
  bK P w0 S0 E (L++[.cells ((l.drop off).take (m*sz)++cY z k.toNat)]) (.lsl L.length 0 (m+k.toNat) none sz) w (Builtin.append_ #[t,u] ty #[p,v]):=by
 obtain⟨c1,c2,V,c4,c5,c6⟩:=hc;have y:Rel w0 S0 E L {w with drawn:=w.drawn+1}:=hR.draw _;obtain⟨a,J,C,_⟩:=JG (E:=E) hz;have h:a.cells.size=sz:=by have:=C.length;simpa[H]using this
 simp only[VR]at T;subst T;have B:=M;simp only[VR]at B;obtain⟨cl,r,d,g0,rfl,g1,g2,g3,g4⟩:=B;have:=g3 cp rfl;subst this;obtain⟨_,q2,os,S,q4⟩:=aZ (P:=P) (sz:=sz) (c:=off+m*sz<=l.length) (l:=(l.drop off).take (m*sz)) (n:=m) y M (by simp only[elems,hL]) c4;obtain⟨n,O⟩:∃n,n=k.toNat:=⟨_,rfl⟩;rw[<- O]at V c5 c6⊢;obtain⟨b,F⟩:∃b,b=(Question.appendCap (m+n) r e).cut (w.tape w.drawn (.appendCap (m+n) r e)):=⟨_,rfl⟩;have G:m+n<=b:=by rw[F];simp[Question.cut]
 obtain⟨f,hi,I⟩:∃i,P.info? e=some i/\i.bytes=g:=by unfold Qm at N;simpa using N
 have A:∀W,(typeInfo e).run P W=.ok f W:=λW=>by simp[typeInfo,hi]
 have R:=growslice_fits (need:=m+n) (old:=r) (bytes:=g) V c5;have s:IntKind.i64.max=9223372036854775807:=by decide
 have hw:IntKind.i64.wrap k=k:=by simp only[IntKind.wrap,IntKind.bits,IntKind.signed];simp;omega
 have ab:(n:Int)=k:=ahd;have Q:k*(f.bytes:Int)<=2^48:=by grind
 have n0:¬k<0:=ahd;have n3:¬k*(f.bytes:Int)>2^48:=ahd;have Y:¬(((m+n:Nat):Int)>IntKind.i64.max/\True):=by rw[s];omega
 have n2:¬(Builtin.nextslicecap (m+n) r*f.bytes>2^48):=by rw[I];omega
 have o:∀W,(if n*sz=0 then(pure #[]:Sem (Array Value))else do pure (Builtin.zeroCells (<- zeroValue e).cells n)).run P W=.ok (Builtin.zeroCells a.cells n) W:=λW=>by
  by_cases U:n*sz=0;rw[if_pos U];have:Builtin.zeroCells a.cells n=#[]:=by apply Array.eq_empty_of_size_eq_zero;rw[kc,h,U]
  simp_all;simp_all
 have x:(Builtin.append_ #[t,u] ty #[.slice (some ⟨cl.blk,d,none⟩) m r,.int q k]).run P w =
   .ok (.slice (some ⟨w.heap.size,0,none⟩) (m+n) b) {w with heap:=w.heap.push (.cells ⟨(os++(Builtin.zeroCells a.cells n).toList)++(Builtin.zeroCells a.cells (b-(m+n))).toList⟩ e),drawn:=w.drawn+1}:=by
  unfold Builtin.append_;simp only[agc,afc,ags,aer,run_underlying ht,run_underlying hu,aes,aeP,bi X,if_true,asInt,asIntOf,hw,if_neg n0,A,if_neg n3,<- O];simp only[if_neg (show ¬(m+n<=r)by omega),agt,aeE,if_false,true_or];simp only[if_neg Y,aeP,aer,A,aes,if_neg n2,run_choose,Question.forced,aeE,if_false,<- F,run_askRoom,q4,o,J,newRow,run_newObj];have K:((⟨os⟩:Array Value)++Builtin.zeroCells a.cells n++Builtin.zeroCells a.cells (b-(m+n)))=⟨(os++(Builtin.zeroCells a.cells n).toList)++(Builtin.zeroCells a.cells (b-(m+n))).toList⟩:=by simp
  grind
 have D:VRL E (cY z n) (Builtin.zeroCells a.cells n).toList:=by have:=JU C n;simpa[Builtin.zeroCells]using this
 obtain⟨E',r1,Z,r3⟩:=sg y (S.append D) (Builtin.zeroCells a.cells (b-(m+n))).toList e (0,0) ahe;refine⟨E',_,_,x,r1,?_,r3⟩;simp only[VR];refine⟨_,b,0,Z,rfl,ahe,G,ahe,?_⟩;have h1:=S.length;have h2:((Builtin.zeroCells a.cells n).toList).length=n*sz:=by simp[kc,h]
 have h5:((Builtin.zeroCells a.cells (b-(m+n))).toList).length=(b-(m+n))*sz:=by simp[kc,h]
 have:(m+n)*sz+(b-(m+n))*sz=b*sz:=by rw[<- afn];congr 1;omega
 have h3:(m+n)*sz=m*sz+n*sz:=afn _ _ _;simp only[aez,h2,h5];omega
end
section
variable {P:Program}{w0:World}{S0:SB}{E:Env}{L:List Blk}{w:World}{T:Tm}{a:Act}
def dw(P:Program)(w0:World)(S0:SB)(E:Env)(L':List Blk)(av:AV)(w:World)(s:Sem Next):Prop :=
 ∃E' v w',(s.run P w=.ok (.value v) w'\/(s.run P w=.ok .skip w'/\v=undef))/\E.le E'/\VR E' av v/\Rel w0 S0 E' L' w'
theorem bK.done{L':List Blk}{av:AV}{s:Sem Value}(h:bK P w0 S0 E L' av w s):dw P w0 S0 E L' av w (do pure (.value (<- s))):=by obtain⟨E',v,w',a,b⟩:=h;exact⟨E',v,w',.inl (by simp[a]),b⟩
theorem sw:∀{xs:List Operand}{c:List Opd}{l:List AV},ni xs=some c->iz T c=some l->TR E T a->VRL E l (xs.map a.eval)
 |[],c,l,h,hv,_=>by simp[ni]at h;subst h;simp[iz]at hv;subst hv;rfl
 | x::xs,c,l,h,hv,hT=>by
   simp only[ni,agG]at h;rcases h1:aY x with _|y
   .simp_all
   .rcases h2:xs.mapM aY with _|d
    .simp_all
    .simp[h1,h2]at h;subst h;simp only[iz]at hv;split at hv<;>simp at hv;rename_i b m e h4;subst hv;exact⟨_,_,rfl,ah h1 e hT,sw (by simpa[ni]using h2) h4 hT⟩
theorem N7{sz:Nat}{x:AV}{v:Value}{c:Prop}{l:List AV}{n:Nat}(k:Nat)(B:k<=n)(A:Rel w0 S0 E L w)(g:VR E x v)(h:elems L sz x=some (c,l,n))(K:c):
  ∃cs,VRL E (l.take (k*sz)) cs/\cs.length=k*sz/\(Builtin.firstCells sz k v).run P w=.ok ⟨cs⟩ w:=by
 have R:k*sz<=n*sz:=afA _ B;unfold elems at h;split at h;simp only[aej,aet]at h;obtain⟨rfl,rfl,rfl⟩:=h;simp only[VR]at g;subst g;have:k=0:=ahd;subst this;exact⟨[],by simp[VRL],ahe,by simp[Builtin.firstCells]⟩;rename_i l m cap;simp only[aej,aet]at h;obtain⟨rfl,rfl,rfl⟩:=h;exact(JQ (P:=P) A g K B).2;rename_i l m i s;simp only[aej,aet]at h;obtain⟨rfl,rfl,rfl⟩:=h;subst K;exact(JQ (P:=P) A g.gsl_sl.1 g.gsl_sl.2 B).2;rename_i i off m cap s;split at h;rename_i l' J;simp only[aej,aet]at h;obtain⟨rfl,rfl,rfl⟩:=h;simp only[VR]at g;obtain⟨q,N,d,t,rfl,G,O,h4,Q⟩:=g;obtain⟨k',C,ty,fr,g1,H,g3,g4,D,M⟩:=A.blk i _ J;rw[t]at g1;cases g1;have e:(((l'.drop off).take (m*sz)).take (k*sz)).length=k*sz:=by simp;omega
 rcases afy k with p|p;subst p;exact⟨[],by simp[VRL],ahe,by simp[Builtin.firstCells,loadCells,loadCellsFrom]⟩;have hd:=G ahd;subst hd;obtain⟨cs,r,y⟩:=ix (P:=P) (w:=w) (b:=q.blk) (o:=q.off+off) (l:=((l'.drop off).take (m*sz)).take (k*sz)) λj a f=>by have z:j<k*sz:=(by have:=(aei.1 f).1;omega);rw[aeS z,aeS ahd,aeX]at f;obtain⟨x,u,I⟩:=D _ _ f;refine⟨x,?_,I⟩;rw[<- afm]at u;simp[World.cell?,H,u]
 exact⟨cs,r,by rw[r.length,e],by rw[e]at y;simpa[Builtin.firstCells]using y⟩;rename_i l' J;simp only[aej,aet]at h;obtain⟨rfl,rfl,rfl⟩:=h;simp only[VR]at g;obtain⟨q,N,d,t,rfl,G,O,h4,Q⟩:=g;obtain⟨k',C,ty,fr,g1,H,g3,g4,D,M⟩:=A.blk i _ J;rw[t]at g1;cases g1;have e:(((l'.drop off).take (m*sz)).take (k*sz)).length=k*sz:=by simp;omega
 rcases afy k with p|p;subst p;exact⟨[],by simp[VRL],ahe,by simp[Builtin.firstCells,loadCells,loadCellsFrom]⟩;have hd:=G ahd;subst hd;obtain⟨cs,r,y⟩:=ix (P:=P) (w:=w) (b:=q.blk) (o:=q.off+off) (l:=((l'.drop off).take (m*sz)).take (k*sz)) λj a f=>by have z:j<k*sz:=(by have:=(aei.1 f).1;omega);rw[aeS z,aeS ahd,aeX]at f;obtain⟨x,u,I⟩:=D _ _ f;refine⟨x,?_,I⟩;rw[<- afm]at u;simp[World.cell?,H,u]
 exact⟨cs,r,by rw[r.length,e],by rw[e]at y;simpa[Builtin.firstCells]using y⟩;cases h;split at h;rename_i s F;simp only[aej,aet]at h;obtain⟨rfl,rfl,rfl⟩:=h;simp only[VR]at g;subst g;subst F;refine⟨(s.map λb=>Value.int .u8 b.toNat).take k,?_,by simp;omega,?_⟩;refine VRL.of_get (by simp[u8s]) λi a f=>?_
 have z:i<k:=by have:=(aei.1 f).1;simp at this;omega
 simp only[Nat.mul_one]at f;rw[aeS z]at f⊢;simp only[u8s,ae8,aeK]at f⊢;obtain⟨b,t,rfl⟩:=f;exact⟨_,⟨b,t,rfl⟩,rfl⟩;simp only[Builtin.firstCells,aeP];simp;cases h;cases h
theorem Rs{t u e ty:TypeId}{sz n:Nat}{x y:AV}{p v:Value}{c:Prop}{new:List AV}(g:Rel w0 S0 E L w)(H:P.underlying t=some (.slice e))(C:bG P e=some sz)(h:VR E x p)(z:VR E y v)(b:elems L sz y=some (c,new,n))(B:c):
  (x=.nilsl->bK P w0 S0 E L (.int .i64 0) w (Builtin.copy_ #[t,u] ty #[p,v])) /\
  (∀ i off m cap l,x=.lsl i off m cap sz->L[i]?=some (.cells l)->off+m * sz<=l.length->(new.take (min n m * sz)).all AV.one=true ->
   bK P w0 S0 E (L.set i (.cells (bP l off (new.take (min n m*sz))))) (.int .i64 (min n m:Nat)) w (Builtin.copy_ #[t,u] ty #[p,v])):=by
 obtain⟨D,T,_,_,_⟩:=aZ (P:=P) g z b B;refine⟨λI=>?_,λi off m cap l I R M q=>?_⟩<;>subst I<;>simp only[VR]at h;subst h;obtain⟨f,_,_,Q⟩:=N7 (P:=P) 0 (aep _) g z b B;refine .same g (v:=.int .i64 0) ?_ (by simp[VR]);simp[Builtin.copy_,run_underlying H,D,bi C,Q,goInt];obtain⟨cl,G,d,N,rfl,g1,U,g3,g4⟩:=h;obtain⟨f,j,k,K⟩:=N7 (P:=P) (min n m) (Nat.min_le_left _ _) g z b B;have F:min n m*sz<=m*sz:=afA _ (Nat.min_le_right _ _);have A:min n m*sz<=n*sz:=afA _ (Nat.min_le_left _ _);have o:(new.take (min n m*sz)).length=min n m*sz:=by simp;omega
 have a:(Builtin.copy_ #[t,u] ty #[.slice (some ⟨cl.blk,d,none⟩) m G,v]).run P w=((storeCells ⟨cl.blk,d,none⟩ f).run P w).andThen λ_ w'=>.ok (.int .i64 (min n m:Nat)) w':=by unfold Builtin.copy_;simp only[agc,afc,ags,aer,run_underlying H,aes,bi C,D,show Nat.min n m=min n m from rfl,K];rfl
 by_cases J:min n m*sz=0;have s:f=[]:=by rw[J]at k;simpa using k
 subst s;refine⟨E,.int .i64 (min n m:Nat),w,by rw[a];simp[storeCells],.refl E,by simp[VR],?_⟩;have:bP l off []=l:=by simp[bP]
 have:L.set i (.cells l)=L:=by
  apply afj
  grind
 simp[*];have r:G≠0:=by grind
 have hd:=g1 r;subst hd;obtain⟨w',O,S⟩:=JM (P:=P) (off:=off) g R N j (λx h=>aev.1 q x h) (by rw[o];omega);exact⟨E,.int .i64 (min n m:Nat),w',by rw[a,O];rfl,.refl E,by simp[VR],S⟩
theorem Q7{z:List AV}(h:∀a∈z,AV.one a=true):∀n,∀a∈cY z n,AV.one a=true
 |0,a,ha=>by simp[cY]at ha
 |n+1,a,ha=>by simp only[cY,aen]at ha;exact ha.elim (h a) (Q7 h n a)
theorem PP{t e ty:TypeId}{sz:Nat}{z:List AV}{x:AV}{p:Value}(n:Rel w0 S0 E L w)(h:P.underlying t=some (.slice e))(C:bG P e=some sz)(u:zOf P e=some z)(b:z.length=sz)(c:VR E x p):
  (x=.nilsl->bK P w0 S0 E L (.tup []) w (Builtin.clear_ #[t] ty #[p])) /\
  (∀ i off m cap l,x=.lsl i off m cap sz->L[i]?=some (.cells l)->off+m * sz<=l.length ->
   bK P w0 S0 E (L.set i (.cells (bP l off (cY z m)))) (.tup []) w (Builtin.clear_ #[t] ty #[p])):=by
 obtain⟨r,g,f,j⟩:=JG (E:=E) u;refine⟨λo=>?_,λi off m cap l o A q=>?_⟩<;>subst o<;>simp only[VR]at c;subst c;exact .same n (v:=.tuple #[]) (by simp[Builtin.clear_,run_underlying h]) ⟨[],rfl,rfl⟩;obtain⟨cl,D,d,s,rfl,g1,F,g3,g4⟩:=c;rcases afy m with k|k;subst k;refine⟨E,.tuple #[],w,by simp[Builtin.clear_,run_underlying h],.refl E,⟨[],rfl,rfl⟩,?_⟩;have:bP l off (cY z 0)=l:=by simp[bP,cY]
 have:L.set i (.cells l)=L:=by
  apply afj
  grind
 simp[*];have hd:=g1 ahd;subst hd;have a:VRL E (cY z m) (Builtin.zeroCells r.cells m).toList:=by have:=JU f m;simpa[Builtin.zeroCells]using this
 obtain⟨w',y,B⟩:=JM (P:=P) (off:=off) n A s a (Q7 j m) (by rw[ki,b];omega);refine⟨E,.tuple #[],w',?_,.refl E,⟨[],rfl,rfl⟩,B⟩;cases m with
 |zero=>omega
 | succ m =>
   unfold Builtin.clear_;simp only[agc,afc,aer,run_underlying h,aes,g,y,aeP]
end
open Go Go.MapKept
section
variable {P:Program}{w0:World}{S0:SB}{E:Env}{L:List Blk}{w:World}{T:Tm}{a:Act}
def GB(P:Program):Nat->List Field->List zg->Prop
 |_,[],[]=>True
 | i,f::fs,k::ks=>f.offset=i/\f.name ≠ "_" /\ UQ P f.type=some k/\GB P (i+1) fs ks
 |_,_,_=>False
theorem Tr:∀{b:List Field}{i:Nat}{a:List zg},Ts P i b=some a->GB P i b a
 |[],i,a,h=>by simp only[Ts,aej]at h;subst h;trivial
 | f::b,i,a,h=>by
   simp only[Ts]at h;split at h
   .rename_i hc;split at h
    .rename_i k ks' h1 h2;simp only[aej]at h;subst h;exact⟨hc.1,hc.2,h1,Tr h2⟩
    .cases h
   .cases h
theorem Ml{b:TypeId}{c:List zg}(h:fx P b=some (.st c)):∃a:Array Field,P.underlying b=some (.struct a)/\P.stoodInHeld b=false/\GB P 0 a.toList c:=by
 unfold fx at h;split at h<;>try simp only[aej,reduceCtorEq]at h
 rename_i a d;split at h;rename_i e;simp only[aeK,kY.st.injEq]at h;obtain⟨f,g,rfl⟩:=h;exact⟨a,d,e,Tr g⟩;cases h
theorem Mk{t:TypeId}{k:zg}(h:UQ P t=some k):(k=.int/\∃q,P.underlying t=some (.int q))\/(k=.str/\P.underlying t=some .string)\/(k=.bool/\P.underlying t=some .bool):=by
 unfold UQ at h
 grind
theorem UI{t:TypeId}{k:zg}(h:UQ P t=some k){cs:Array Value}{i:Nat}{v:Value}(b:cs[i]?=some v)(w:World):(part t cs i).run P w=.ok v w:=by rcases Mk h with⟨_,q,a⟩|⟨_,a⟩|⟨_,a⟩<;>simp[part,isAgg,run_underlying a,b]
theorem Rf:∀{b:List zg}{l:List AV},sj b l=true->b.length=l.length
 |[],[],_=>rfl
 |[],_::_,h=>by simp[sj]at h
 |_::_,[],h=>by simp[sj]at h
 |k::b,a::l,h=>by simp only[sj,aeq]at h;simp[Rf h.2]
theorem ad6{t:TypeId}{k:zg}(h:UQ P t=some k){a b:AV}{u v:Value}{r:Bool}(j:acJ k a=true)(g:VR E a u)(i:VR E b v)(c:PG a b=some r)(d:Nat)(w:World):(Op.equalIn (d+1) t u v).run P w=.ok r w:=by rcases Mk h with⟨rfl,q,f⟩|⟨rfl,f⟩|⟨rfl,f⟩<;>cases a<;>simp only[acJ,aeE]at j<;>cases b<;>simp only[PG,reduceCtorEq]at c<;>simp only[VR]at g i<;>subst g<;>subst i;split at c<;>simp only[aej,reduceCtorEq]at c;rename_i e;subst e;subst c;rw[run_equalIn_int w d t _ _ _ _ f];rfl;simp only[aej]at c;subst c;rw[run_equalIn_string w d t _ _ f,<- beq_toListBytes];rename_i a b;congr 1;by_cases e:a=b;subst e;simp[bytes_beq];simp only[e,decide_false];rcases h':(({data:={toList:=a}}:ByteArray) == {data:={toList:=b}})with _|_;rfl;have:=(bytes_beq _ _).1 h';simp_all;simp only[aej]at c;subst c;rw[run_equalIn_bool' w d t _ _ f];rfl
theorem acd(d:Nat)(xs h:Array Value)(w:World):∀(g:List Field) (e:List zg) (i:Nat) (l m:List AV) (us vs:List Value) (r:Bool),GB P i g e->sj e l=true->VRL E l us->VRL E m vs->(∀j,us[j]?=xs[i+j]?)->(∀j,vs[j]?=h[i+j]?)->DN l m=some r->(Op.eqFields (d+1) xs h g).run P w=.ok r w
 | [],e,i,l,m,us,vs,r,hf,hp,hl,hm,hx,hy,hq=>by
   cases e with
   |cons k e=>simp[GB]at hf
   | nil =>
     cases l with
     |cons a l=>simp[sj]at hp
     | nil =>
       cases m with
       |cons b m=>simp[DN]at hq
       |nil=>simp only[DN,aej]at hq;subst hq;simp[Op.eqFields]
 | f::g,e,i,l,m,us,vs,r,hf,hp,hl,hm,hx,hy,hq=>by
   cases e with
   |nil=>simp[GB]at hf
   | cons k e =>
     cases l with
     |nil=>simp[sj]at hp
     | cons a l =>
       cases m with
       |nil=>simp[DN]at hq
       | cons b m =>
         obtain⟨t,x,o,h4⟩:=hf;simp only[sj,aeq]at hp;obtain⟨u,q,rfl,B,n⟩:=hl;obtain⟨v,s,rfl,A,p⟩:=hm;have y:xs[i]?=some u:=(by have:=hx 0;simpa using this.symm);have z:h[i]?=some v:=(by have:=hy 0;simpa using this.symm);simp only[DN]at hq;simp only[Op.eqFields,ne_eq,x,not_false_eq_true,if_true,t,aer,UI o y,UI o z,aes];cases hk:PG a b with
         |none=>rw[hk]at hq;cases hq
         | some c =>
           rw[hk]at hq;rw[ad6 o hp.1 B A hk d w];cases c with
           |false=>simp only[aej]at hq;subst hq;simp
           | true =>
             exact acd d xs h w g e (i+1) l m q s r h4 hp.2 n p (λj=>by have:=hx (j+1);rw[show i+(j+1)=i+1+j by omega]at this;simpa using this) (λj=>by have:=hy (j+1);rw[show i+(j+1)=i+1+j by omega]at this;simpa using this) hq
theorem PV{a:TypeId}{d:List zg}{b:Array Field}(g:P.underlying a=some (.struct b))(i:P.stoodInHeld a=false)(n:GB P 0 b.toList d){l:List AV}{q:AV}{u v:Value}{r:Bool}(p:sj d l=true)(k:VR E (.agg l) u)(o:VR E q v)(h:yj (.agg l) q=some r)(w:World):
  (Op.equal a u v).run P w=.ok r w:=by
 cases q<;>simp only[yj,reduceCtorEq]at h;rename_i m;obtain⟨us,rfl,c⟩:=k;obtain⟨vs,rfl,f⟩:=o;have e:P.fieldsOf a=b:=by simp[Program.fieldsOf,g]
 have:=run_equalIn_struct (P:=P) w 9999 a ⟨us⟩ ⟨vs⟩ (by rw[e];exact g) i;rw[e,acd 9998 ⟨us⟩ ⟨vs⟩ w b.toList d 0 l m us vs r n p c f (λj=>ahe) (λj=>ahe) h]at this;exact this
theorem Zs{t:TypeId}(g:fx P t=some (.st [.str,.str]))(j:P.eqGuardType P.depth t=false){b c a c':List UInt8}{u v:Value}(d:Bool){op:BinOp}(e:op=if d then .neq else .eql)(n:Rel w0 S0 E L w)(m:VR E (.agg [.str b,.str c]) u)(k:VR E (.agg [.str a,.str c']) v)(x y:Operand):
  bK P w0 S0 E L (.bool (if d then !decide (b=a/\c=c')else decide (b=a/\c=c'))) w (do eqGuard op t x y u v;binOp op t u v):=by
 obtain⟨A,o,p,r⟩:=Ml g;have s:yj (.agg [.str b,.str c]) (.agg [.str a,.str c'])=some (decide (b=a/\c=c')):=by
  simp only[yj,DN,PG];by_cases z:b=a
  grind
  simp[*]
 have q:=PV o p r (l:=[.str b,.str c]) rfl m k s w;have i:=m;have h:=k;obtain⟨us,rfl,_⟩:=i;obtain⟨vs,rfl,_⟩:=h;have f:(Op.equalIn 10000 t (.agg ⟨us⟩) (.agg ⟨vs⟩)).run P w=.ok (decide (b=a/\c=c')) w:=q;cases d with
 | true =>
   subst e;refine .same (v:=.bool (!decide (b=a/\c=c'))) n ?_ (by simp only[if_true,VR]);simp only[aer,run_eqGuard_agg w .neq t x y ⟨us⟩ ⟨vs⟩ j,aes,run_neq_struct,f,if_true]
 | false =>
   subst e;refine .same (v:=.bool (decide (b=a/\c=c'))) n ?_ (by simp only[aeE,if_false,VR]);simp only[aeE,if_false,aer,run_eqGuard_agg w .eql t x y ⟨us⟩ ⟨vs⟩ j,aes,run_eql_struct,f]
end
section
variable {P:Program}{w0:World}{S0:SB}{E:Env}{L:List Blk}{w:World}{T:Tm}{a:Act}
theorem dw.same{av:AV}{v:Value}{s:Sem Next}(a:Rel w0 S0 E L w)(h:s.run P w=.ok (.value v) w)(b:VR E av v):dw P w0 S0 E L av w s:=⟨E,v,w,.inl h,.refl E,b,a⟩
theorem cX{x:Option Operand}{y:Option Opd}{r:Option Int}(c:TR E T a)(h:vD x=some y)(b:bnd T y=some r):L6 a x r:=abz c h b
theorem Yr{t:TypeId}{x:Operand}{g:Bool}{s:Nat}{y:Opd}{c:Prop}{av:AV}{L':List Blk}(d:Rel w0 S0 E L w)(k:TR E T a)(e:iV P t=some g)(i:bG P t=some s)(j:aY x=some y)(b:ak T L (.load g s y)=some (c,av,L'))(h:c):dw P w0 S0 E L' av w (do pure (.value (<- Instr.loadAt t (a.eval x)))):=by
 simp only[ak]at b;rcases h1:evD T y with _|u;simp_all;simp only[h1,afO]at b;rcases h2:row L u with _|⟨l,off⟩;simp_all;simp only[h2]at b;have f:=jY d j h1 k;cases g;obtain⟨rfl,rfl,rfl⟩:=b;exact(Vg d e h2 f h).done;obtain⟨rfl,rfl,rfl⟩:=b;exact(Vf d e i h2 f h).done
theorem WL{t:TypeId}{p x:Operand}{s:Nat}{n y:Opd}{c:Prop}{av:AV}{L':List Blk}(o:Rel w0 S0 E L w)(f:TR E T a)(k:bG P t=some s)(q:aY p=some n)(r:aY x=some y)(b:ak T L (.store s n y)=some (c,av,L'))(v:c):dw P w0 S0 E L' av w (do Instr.storeAt t (a.eval p) (a.eval x);pure .skip):=by
 simp only[ak]at b;split at b<;>try cases b
 rename_i i off vals m e;split at b<;>try cases b
 rename_i l h;split at b<;>try cases b
 rename_i d;rcases h3:evX T y with _|u;simp_all;simp only[h3,afO]at e;obtain⟨w',g,j⟩:=U6 (P:=P) o k rfl (ah q m f) h (qz e (ah r h3 f)) d.2 d.1 v;exact⟨E,undef,w',.inr ⟨by simp[g],rfl⟩,.refl E,by simp[VR],j⟩;rename_i l h;split at b<;>try cases b
 rename_i d;rcases h3:evX T y with _|u;simp_all;simp only[h3,afO]at e;obtain⟨w',g,j⟩:=TJ (P:=P) o k rfl (ah q m f) h (qz e (ah r h3 f)) d.2 d.1 v;exact⟨E,undef,w',.inr ⟨by simp[g],rfl⟩,.refl E,by simp[VR],j⟩
theorem aaM{t e:TypeId}{x:Operand}{F H D:Option Operand}{sz:Nat}{N:Opd}{C B u:Option Opd}{c:Prop}{av:AV}{L':List Blk}(p:Rel w0 S0 E L w)(d:TR E T a)(hd:P.underlying t=some (.slice e))(o:bG P e=some sz)(q:aY x=some N)(i:vD F=some C)(j:vD H=some B)(n:vD D=some u)(g:ak T L (.slV sz N C B u)=some (c,av,L'))(b:c):dw P w0 S0 E L' av w (do pure (.value (<- Instr.sliceAt t (a.eval x) (F.map a.eval) (H.map a.eval) (D.map a.eval)))):=by
 simp only[ak]at g;have f:∀{r},bnd T u=some r->r=none->D=none:=λ{r} O hr=>by rcases cX d n O with⟨h,_⟩|⟨_,_,_,_,h,_⟩;omega;simp_all
 split at g;rename_i k l m h4;simp only[aej,aet]at g;obtain⟨rfl,rfl,rfl⟩:=g;have:=f h4 rfl;subst this;exact(R0 p hd o (ah q k d) (cX d i l) (cX d j m) b.1 b.2).done;rename_i k l m h4;simp only[aej,aet]at g;obtain⟨rfl,rfl,rfl⟩:=g;have:=f h4 rfl;subst this;exact((PM p hd o (ah q k d) (cX d i l) (cX d j m) b.1 b.2.1).1 _ _ rfl b.2.2).done;rename_i k l m h4;simp only[aej,aet]at g;obtain⟨rfl,rfl,rfl⟩:=g;rcases cX d j m with⟨_,h⟩|⟨o1,I,J,rfl,v,z⟩;cases h;rcases cX d n h4 with⟨_,h⟩|⟨M,K,G,rfl,y,A⟩;cases h;cases v;cases y;exact(Rr p hd o (ah q k d).gsl_sl.1 (cX d i l) z A b.1 b.2.1 b.2.2.1 b.2.2.2.1 b.2.2.2.2).done;rename_i k l m h4;simp only[aej,aet]at g;obtain⟨rfl,rfl,rfl⟩:=g;rcases cX d j m with⟨_,h⟩|⟨o1,I,J,rfl,v,z⟩;cases h;rcases cX d n h4 with⟨_,h⟩|⟨M,K,G,rfl,y,A⟩;cases h;cases v;cases y;exact(Rr p hd o (ah q k d) (cX d i l) z A b.1 b.2.1 b.2.2.1 b.2.2.2.1 b.2.2.2.2).done;rename_i k l m h4;simp only[aej,aet]at g;obtain⟨rfl,rfl,rfl⟩:=g;have:=f h4 rfl;subst this;obtain⟨rfl,b⟩:=b;exact((PM p hd o (ah q k d).gsl_sl.1 (cX d i l) (cX d j m) b.1 b.2.1).1 _ _ rfl b.2.2).done;rename_i k l m h4;split at g<;>try cases g
 rename_i s;subst s;have:=f h4 rfl;subst this;exact((PM p hd o (ah q k d) (cX d i l) (cX d j m) b.1 b.2.1).2 _ _ _ rfl b.2.2).done;rename_i k l m h4;split at g<;>try cases g
 rename_i s;subst s;rcases cX d j m with⟨_,h⟩|⟨o1,I,J,rfl,v,z⟩;cases h;rcases cX d n h4 with⟨_,h⟩|⟨M,K,G,rfl,y,A⟩;cases h;cases v;cases y;exact(U8 p hd o (ah q k d) (cX d i l) z A b.1 b.2.1 b.2.2.1 b.2.2.2).done;simp_all
theorem aaN{t e:TypeId}{x:Operand}{r s:Option Operand}{n sz:Nat}{u:Opd}{h g:Option Opd}{c:Prop}{av:AV}{L':List Blk}(k:Rel w0 S0 E L w)(f:TR E T a)(hd:P.underlying t=some (.array n e))(q:bG P e=some sz)(v:aY x=some u)(i:vD r=some h)(j:vD s=some g)(d:ak T L (.slA n sz u h g)=some (c,av,L'))(b:c):dw P w0 S0 E L' av w (do pure (.value (<- Instr.sliceAt t (a.eval x) (r.map a.eval) (s.map a.eval) none))):=by
 simp only[ak]at d;split at d;rename_i m o p;simp only[aej,aet]at d;obtain⟨rfl,rfl,rfl⟩:=d;exact((TB k hd q (jY k v m f) (cX f i o) (cX f j p) b.1 b.2.1 b.2.2.1).1 _ _ rfl).done;rename_i m o p;split at d<;>try cases d
 rename_i l y;exact((TB k hd q (jY k v m f) (cX f i o) (cX f j p) b.1 b.2.1 b.2.2.1).2 _ _ _ rfl y b.2.2.2).done;simp_all
theorem WM{t e:TypeId}{x i:Operand}{sz:Nat}{n m:Opd}{c:Prop}{av:AV}{L':List Blk}(k:Rel w0 S0 E L w)(f:TR E T a)(hd:P.underlying t=some (.slice e))(g:bG P e=some sz)(l:aY x=some n)(p:aY i=some m)(j:ak T L (.iaddr sz n m)=some (c,av,L'))(b:c):dw P w0 S0 E L' av w (do pure (.value (<- Instr.indexAt t (a.eval x) (a.eval i)))):=by
 simp only[ak]at j;split at j<;>try cases j
 all_goals
  rename_i h o;have d:=ah p o f;simp only[VR]at d;rw[d]
 exact((Ji k hd g (ah l h f) b.1).1 _ _ _ rfl b.2).done;exact((Ji k hd g (ah l h f).gsl_sl.1 b.1).1 _ _ _ rfl b.2).done;exact((Ji k hd g (ah l h f) b.1).2 _ _ _ _ _ rfl b.2).done
theorem Ux{t e:TypeId}{x i:Operand}{n sz:Nat}{m l:Opd}{c:Prop}{av:AV}{L':List Blk}(d:Rel w0 S0 E L w)(h:TR E T a)(hd:P.underlying t=some (.array n e))(j:bG P e=some sz)(o:aY x=some m)(q:aY i=some l)(g:ak T L (.iaddrA n sz m l)=some (c,av,L'))(f:c):dw P w0 S0 E L' av w (do pure (.value (<- Instr.indexAt t (a.eval x) (a.eval i)))):=by
 simp only[ak]at g;split at g<;>try cases g
 all_goals
  rename_i k p;have b:=ah q p h;simp only[VR]at b;rw[b]
 exact((N5 d hd j (jY d o k h) f.1 f.2).1 _ _ rfl).done;exact((N5 d hd j (jY d o k h) f.1 f.2).2 _ _ rfl).done
theorem WO{t:TypeId}{i:Array Field}{f:Nat}{d:Field}{x:Operand}{h:Opd}{c:Prop}{av:AV}{L':List Blk}(b:Rel w0 S0 E L w)(m:TR E T a)(hd:P.underlying t=some (.struct i))(j:i.toList[f]?=some d)(k:(bG P d.type).getD 0≠0)(g:aY x=some h)(e:ak T L (.faddr d.offset h)=some (c,av,L')):dw P w0 S0 E L' av w (do pure (.value (<- Instr.fieldAt t (a.eval x) f))):=by
 simp only[ak]at e;split at e<;>try cases e
 all_goals rename_i l
 exact((PO b hd j k (jY b g l m)).1 _ _ rfl).done;exact((PO b hd j k (jY b g l m)).2 _ _ rfl).done
theorem WN{t:TypeId}{h:Array Field}{f sz:Nat}{g:Bool}{d:Field}{x:Operand}{m:Opd}{c:Prop}{av:AV}{L':List Blk}(n:Rel w0 S0 E L w)(p:TR E T a)(hd:P.underlying t=some (.struct h))(j:h.toList[f]?=some d)(k:iV P d.type=some g)(e:bG P d.type=some sz)(o:aY x=some m)(b:ak T L (.field g d.offset sz m)=some (c,av,L'))(q:c):dw P w0 S0 E L' av w (do pure (.value (<- Instr.field t (a.eval x) f))):=by
 simp only[ak]at b;split at b<;>try cases b
 rename_i l i;cases g;obtain⟨rfl,rfl,rfl⟩:=b;exact((PN n hd j k e (ah o i p)).2 rfl q).done;obtain⟨rfl,rfl,rfl⟩:=b;exact((PN n hd j k e (ah o i p)).1 rfl q).done
theorem aaR{op:BinOp}{t u:TypeId}{x y:Operand}{lo:LOp}{c:Prop}{av:AV}{L':List Blk}(hR:Rel w0 S0 E L w)(hT:TR E T a)(hl:Je P op t x y=some lo)(he:ak T L lo=some (c,av,L'))(hc:c):
  dw P w0 S0 E L' av w (do pure (.value (<- (do eqGuard op t x y (a.eval x) (a.eval y);binOp op t (a.eval x) (a.eval y))))):=by
 unfold Je at hl;split at hl<;>try cases hl
 rename_i x' y' hx hy;have plain:∀{lo:LOp},lo=.bin op x' y'->ak T L lo=some (c,av,L')->dw P w0 S0 E L' av w (do pure (.value (<- (do eqGuard op t x y (a.eval x) (a.eval y);binOp op t (a.eval x) (a.eval y))))):=λhlo he=>by
  subst hlo;simp only[ak]at he;split at he<;>try cases he
  rename_i u v h1 h2;rcases h3:bin op u v with _|⟨c',r⟩;simp_all
  .simp only[h3,aeC,aej,aet]at he;obtain⟨rfl,rfl,rfl⟩:=he;have hu:=ah hx h1 hT;have hv:=ah hy h2 hT;have hguard:(eqGuard op t x y (a.eval x) (a.eval y)).run P w=.ok () w:=by
    have:(∃k n,a.eval x=.int k n)\/(∃s,a.eval x=.string s):=by
     unfold bin at h3;split at h3<;>try cases h3
     all_goals (simp only[VR]at hu)
     simp[*];simp[*];simp[*];simp[*]
    unfold eqGuard;rcases this with⟨k,n,e⟩|⟨s,e⟩<;>rw[e]<;>cases op<;>simp
   obtain⟨E',x1,w',r1,r2⟩:=Zt (P:=P) (t:=t) hR hu hv h3 hc;exact⟨E',x1,w',.inl (by simp[hguard,r1]),r2⟩
 have eqs:∀(neg:Bool) (k:EqK) (d:TypeDesc),op=(if neg then .neq else .eql)->P.underlying t=some d->k.fits d=true->(k=.iface->(kI x ||kI y)=true)->ak T L (.eqk neg k x' y')=some (c,av,L') ->
   dw P w0 S0 E L' av w (do pure (.value (<- (do eqGuard op t x y (a.eval x) (a.eval y);binOp op t (a.eval x) (a.eval y))))):=λneg k d hop hd hk hif he=>by
  simp only[ak]at he;split at he<;>try cases he
  rename_i u v h1 h2;rcases h3:eqA k u v with _|r
  .simp_all
  .simp only[h3,aeC,aej,aet]at he;obtain⟨rfl,rfl,rfl⟩:=he;exact(abn neg hop hR (ah hx h1 hT) (ah hy h2 hT) hd hk h3 x y hif).done
 have sln:∀(neg:Bool) (e:TypeId),op=(if neg then .neq else .eql)->P.underlying t=some (.slice e)->(if PK y=true then some (LOp.slnil neg x')else none)=some lo->ak T L lo=some (c,av,L') ->
   dw P w0 S0 E L' av w (do pure (.value (<- (do eqGuard op t x y (a.eval x) (a.eval y);binOp op t (a.eval x) (a.eval y))))):=λneg e hop hd hlo he=>by
  by_cases hnil:PK y=true
  case neg=>rw[if_neg hnil]at hlo;cases hlo
  rw[if_pos hnil]at hlo;cases hlo;have hy':a.eval y=.slice none 0 0:=by
   unfold PK at hnil;split at hnil
   .rfl
   simp_all
  rw[hy'];simp only[ak]at he;split at he<;>try cases he
  all_goals
   rename_i h1;have hu:=ah hx h1 hT;simp only[VR]at hu;refine(U7 neg hop hR hd ?_ x y).done
  .grind
  .grind
  .obtain⟨_,_,_,_,h2,_⟩:=hu;exact⟨_,_,h2,λe=>by cases e⟩
 have st2:∀(neg:Bool),op=(if neg then .neq else .eql)->(if Ze P t=true then some (LOp.eq2 neg x' y')else none)=some lo->ak T L lo=some (c,av,L') ->
   dw P w0 S0 E L' av w (do pure (.value (<- (do eqGuard op t x y (a.eval x) (a.eval y);binOp op t (a.eval x) (a.eval y))))):=λneg hop hlo he=>by
  by_cases h2:Ze P t=true
  case neg=>rw[if_neg h2]at hlo;cases hlo
  rw[if_pos h2]at hlo;cases hlo;simp only[ak]at he;split at he<;>try cases he
  rename_i b c b' c' h3 h4;unfold Ze at h2;split at h2
  .rename_i hkd;exact(Zs hkd (by simpa using h2) neg hop hR (ah hx h3 hT) (ah hy h4 hT) x y).done
  .cases h2
 split at hl;cases hl;exact plain rfl he;cases hl;exact plain rfl he
 .rename_i d _ _ hd;split at hl<;>try (cases hl;done)
  all_goals try cases hl
  exact eqs false .bool _ rfl hd rfl ahe he;exact eqs true .bool _ rfl hd rfl ahe he;exact eqs false .ptr _ rfl hd rfl ahe he;exact eqs true .ptr _ rfl hd rfl ahe he;exact sln false _ rfl hd hl he;exact sln true _ rfl hd hl he;exact eqs false .map _ rfl hd rfl ahe he;exact eqs true .map _ rfl hd rfl ahe he;exact eqs false .func _ rfl hd rfl ahe he;exact eqs true .func _ rfl hd rfl ahe he;split at hl<;>try cases hl
  rename_i hcst;exact eqs false .iface _ rfl hd rfl (λ_=>hcst) he;split at hl<;>try cases hl
  rename_i hcst;exact eqs true .iface _ rfl hd rfl (λ_=>hcst) he;exact st2 false rfl hl he;exact st2 true rfl hl he
 cases hl
end
end Go.Proofs.YtajkbcmleihaoaaGreatDoor.Av
