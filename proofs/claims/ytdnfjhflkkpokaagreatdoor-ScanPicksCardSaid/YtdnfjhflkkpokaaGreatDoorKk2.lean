/- Joined texts of the walk, made small by a program. -/
import Derived.Test.YtdnfjhflkkpokaaGreatDoorKk1
import Derived.MapKept
import Derived.Laws.StructEq
set_option linter.unusedSimpArgs false
set_option linter.unusedVariables false
namespace Go.Proofs.YtdnfjhflkkpokaaGreatDoor.Av
open Go
def cS(P:Program)(w0:World)(S0:SB)(E:Env)(L':List Blk)(av:AV)(w:World)(s:Sem Value):Prop :=
 ∃E' v w',s.run P w=.ok v w'/\E.le E'/\VR E' av v/\Rel w0 S0 E' L' w'
section
variable {P:Program}{w0:World}{S0:SB}{E:Env}{L:List Blk}{w:World}
theorem cS.same{av:AV}{v:Value}{s:Sem Value}(hR:Rel w0 S0 E L w)(h:s.run P w=.ok v w)(hv:VR E av v):cS P w0 S0 E L av w s:=⟨E,v,w,h,.refl E,hv,hR⟩
theorem bX{t:TypeId}{n:Nat}(h:cL P t=some n):(sizeOf t).run P w=.ok n w:=by unfold cL at h;simp only[ajW]at h;obtain⟨i,h1,rfl⟩:=h;simp[sizeOf,typeInfo,h1]
theorem xw{t:TypeId}{g:Bool}(h:ic P t=some g):(isAgg t).run P w=.ok g w:=by unfold ic at h;unfold isAgg;split at h<;>simp at h<;>subst h;rename_i fs hd;simp[run_underlying hd];rename_i n e hd;simp[run_underlying hd];rename_i d h1 h2 hd;simp only[ajB,run_underlying hd,ajC];rfl
theorem OJ{t:TypeId}{z:List AV}(h:zOf P t=some z):∃v,(∀w,(zeroValue t).run P w=.ok v w)/\VRL E z v.cells.toList/\∀a∈z,AV.one a=true:=by unfold zOf at h;rcases h1:P.info? t with _|i;simp_all;rcases h2:i.zero with _|v;simp_all;simp[h1,h2]at h;exact⟨v,λw=>by simp[zeroValue,typeInfo,h1,h2],Z8 h⟩
theorem OK{t:TypeId}{z:List AV}(h:zOf P t=some z):∃v,(zeroValue t).run P w=.ok v w/\VRL E z v.cells.toList/\∀a∈z,AV.one a=true :=
 let ⟨v,h1,h2⟩:=OJ (E:=E) h
 ⟨v,h1 w,h2⟩
theorem aaw{t:TypeId}{p:AV}{v:Value}{l:List AV}{off:Nat}(hR:Rel w0 S0 E L w)(hg:ic P t=some false)(hr:row L p=some (l,off))(hv:VR E p v)(hlt:off<l.length):
  cS P w0 S0 E L (l.getD off .undef) w (Instr.loadAt t v):=by
 obtain⟨b,o,rfl,hc⟩:=Rv hR hr hv;obtain⟨x,h1,h2⟩:=hc off l[off] (ajF hlt);refine .same hR (v:=x) ?_ (by rw[ajO,ajF hlt];exact h2);simp[Instr.loadAt,Instr.sureAddr,loadVar,xw hg,h1]
theorem SZ{t:TypeId}{l:List AV}{b o:Nat}(hg:ic P t=some true)(hs:cL P t=some l.length)(hc:∀(j:Nat) (a:AV),l[j]?=some a->∃x,w.cell? ⟨b,o+j,none⟩=some x/\VR E a x):∃cs,VRL E l cs/\(loadVar t ⟨b,o,none⟩).run P w=.ok (.agg ⟨cs⟩) w:=by
 obtain⟨cs,h1,h2⟩:=gQ (P:=P) hc;exact⟨cs,h1,by simp[loadVar,xw hg,bX hs,h2]⟩
theorem aav{t:TypeId}{p:AV}{v:Value}{l:List AV}{off sz:Nat}(hR:Rel w0 S0 E L w)(hg:ic P t=some true)(hs:cL P t=some sz)(hr:row L p=some (l,off))(hv:VR E p v)(hlt:off+sz<=l.length):
  cS P w0 S0 E L (.agg ((l.drop off).take sz)) w (Instr.loadAt t v):=by
 obtain⟨b,o,rfl,hc⟩:=Rv hR hr hv;have hlen:((l.drop off).take sz).length=sz:=by simp;omega
 obtain⟨cs,h1,h2⟩:=SZ (P:=P) (w:=w) (b:=b) (o:=o+off) (l:=(l.drop off).take sz) hg (by rw[hlen];exact hs) (λj a ha=>by have hj:j<sz:=(by have:=(ajr.1 ha).1;omega);rw[akj hj,aki]at ha;have:=hc _ _ ha;rwa[<- akD]at this)
 refine .same hR (v:=.agg ⟨cs⟩) ?_ ⟨cs,rfl,h1⟩;simpa[Instr.loadAt,Instr.sureAddr]using h2
theorem aeU{l:List AV}{vs:List Value}{extra:List Value}{ty:TypeId}{fr:Nat×Nat}{E':Env}{i:Nat}(hl:VRL E l vs)(hle:E.le E')(hloc:E'.loc i=some ⟨w.heap.size,0,vs.length+extra.length⟩)(hfr:∀o,o<=vs.length+extra.length->¬(fr.1<=o/\o<fr.2)):
  bS E' {w with heap:=w.heap.push (.cells ⟨vs++extra⟩ ty fr)} i (.cells l):=by
 refine⟨_,⟨vs++extra⟩,ty,fr,hloc,amN,amN,by have:=hl.length;simp;omega,λj a ha=>?_,λo _ ho=>hfr o ho⟩;obtain⟨v,h1,h2⟩:=hl.get ha;have hj:j<vs.length:=(ajr.1 h1).1;exact⟨v,by simp[ajw hj,h1],VR.mono hle _ _ h2⟩
theorem pY{l:List AV}{vs:List Value}(hR:Rel w0 S0 E L w)(hl:VRL E l vs)(extra:List Value)(ty:TypeId)(fr:Nat×Nat)(hfr:∀o,o<=vs.length+extra.length->¬(fr.1<=o/\o<fr.2)):
  ∃E',E.le E'/\E'.loc L.length=some ⟨w.heap.size,0,vs.length+extra.length⟩/\Rel w0 S0 E' (L++[.cells l]) {w with heap:=w.heap.push (.cells ⟨vs++extra⟩ ty fr)}:=by
 have hn:E.loc L.length=none:=hR.fresh _ (ajs _);have:=hR.push (.cells ⟨vs++extra⟩ ty fr) (.cells l) ⟨w.heap.size,0,vs.length+extra.length⟩ rfl rfl (aeU hl (Env.le_loc _ hn) amN hfr)
 grind
theorem acO{l:List AV}{vs:List Value}{extra:List Value}{ty:TypeId}{fr:Nat×Nat}{E':Env}{i:Nat}(hl:VRL E l vs)(hle:E.le E')(hloc:E'.loc i=some ⟨w.heap.size,0,vs.length+extra.length⟩)(hfr:∀o,o<vs.length+extra.length->¬(fr.1<=o/\o<fr.2)):
  bS E' {w with heap:=w.heap.push (.cells ⟨vs++extra⟩ ty fr)} i (.bytes l):=by
 refine⟨_,⟨vs++extra⟩,ty,fr,hloc,amN,amN,by have:=hl.length;simp;omega,λj a ha=>?_,λo _ ho=>hfr o ho⟩;obtain⟨v,h1,h2⟩:=hl.get ha;have hj:j<vs.length:=(ajr.1 h1).1;exact⟨v,by simp[ajw hj,h1],VR.mono hle _ _ h2⟩
theorem YD{l:List AV}{vs:List Value}(hR:Rel w0 S0 E L w)(hl:VRL E l vs)(extra:List Value)(ty:TypeId)(fr:Nat×Nat)(hfr:∀o,o<vs.length+extra.length->¬(fr.1<=o/\o<fr.2)):
  ∃E',E.le E'/\E'.loc L.length=some ⟨w.heap.size,0,vs.length+extra.length⟩/\Rel w0 S0 E' (L++[.bytes l]) {w with heap:=w.heap.push (.cells ⟨vs++extra⟩ ty fr)}:=by
 have hn:E.loc L.length=none:=hR.fresh _ (ajs _);have:=hR.push (.cells ⟨vs++extra⟩ ty fr) (.bytes l) ⟨w.heap.size,0,vs.length+extra.length⟩ rfl rfl (acO hl (Env.le_loc _ hn) amN hfr)
 grind
theorem S6{t:TypeId}{v:Value}{l:List AV}(hR:Rel w0 S0 E L w)(hl:VRL E l v.cells.toList):
  cS P w0 S0 E (L++[.cells l]) (.ptr L.length 0) w (do pure (.pointer (some (<- newVar t v)))):=by
 obtain⟨E',h1,h2,h3⟩:=pY hR hl [] t (0,0) amN;refine⟨E',.pointer (some ⟨w.heap.size,0,none⟩),{w with heap:=w.heap.push (.cells v.cells t)},by simp[newVar,newRow],h1,?_,by simpa using h3⟩;simp only[VR];simp[*]
theorem aax{t:TypeId}{z:List AV}(hR:Rel w0 S0 E L w)(hz:zOf P t=some z):cS P w0 S0 E (L++[.cells z]) (.ptr L.length 0) w (Instr.alloc t true (.tuple #[])):=by obtain⟨v,h1,h2,_⟩:=OK (w:=w) (E:=E) hz;obtain⟨E',x,w',h3,h4⟩:=S6 (P:=P) (t:=t) hR h2;exact⟨E',x,w',by simpa[Instr.alloc,h1]using h3,h4⟩
theorem acF(cs:List Value):∀(j off:Nat) (z:Array Value),off+j+cs.length<=z.size ->
  ((cs.zipIdx j).foldl (λa (x:Value×Nat)=>a.setIfInBounds (off+x.2) x.1) z).size=z.size /\
  ∀k,((cs.zipIdx j).foldl (λa (x:Value×Nat)=>a.setIfInBounds (off+x.2) x.1) z)[k]?=if off+j<=k/\k<off+j+cs.length then cs[k-(off+j)]? else z[k]?:=by
 induction cs with
 |nil=>intro j off z _;exact⟨rfl,λk=>by rw[if_neg amN];rfl⟩
 | cons c cs ih =>
   intro j off z hz;simp only[ajz]at hz;simp only[List.zipIdx_cons,akm,ajz];have:=ih (j+1) off (z.setIfInBounds (off+j) c) (by rw[Array.size_setIfInBounds];omega)
   grind
theorem T7{T:Tm}{a:Act}(hT:TR E T a){place:Nat->Option (Nat×Nat)}{d:TypeDesc}(hp:∀i r,QT P d i=some r->place i=some r):∀{ps:List (Nat×Operand)}{m:List (Nat×Nat×Opd)}{z l:List AV}{cells:Array Value},
  gp P d ps=some m->jq T z m=some l->VRL E z cells.toList->∃cs,Instr.fill place cells (ps.map λ(i,x)=>(i,a.eval x))=some cs/\VRL E l cs.toList
 |[],m,z,l,cells,hm,hf,hz=>by simp[gp]at hm;subst hm;simp[jq]at hf;subst hf;exact⟨cells,by simp[Instr.fill],hz⟩
 | (i,x)::ps,m,z,l,cells,hm,hf,hz=>by
   simp only[gp]at hm;split at hm<;>simp at hm;rename_i o s y m' h1 h2 h3;subst hm;simp only[jq]at hf;split at hf<;>try simp at hf
   rename_i vals h4;obtain⟨⟨h5,h6⟩,hf⟩:=hf;rcases h7:evX T y with _|u
   .simp_all
   .simp[h7]at h4;have hu:=ao h2 h7 hT;have hcs:=oL h4 hu;have hlen:=hcs.length;have hzl:=hz.length;have key:=acF (a.eval x).cells.toList 0 o cells (by simp at hlen hzl⊢;omega);have hsp:VRL E (dw z o vals) (((a.eval x).cells.toList.zipIdx 0).foldl (λa (x:Value×Nat)=>a.setIfInBounds (o+x.2) x.1) cells).toList:=by
     refine VRL.of_get (by rw[kz amM];simpa using key.1.trans (by simpa using hzl)) λk b hb=>?_
     rw[N7 amM]at hb;rw[amy,key.2 k];by_cases h8:o<=k/\k<o+vals.length
     .rw[if_pos h8]at hb;rw[if_pos amM];exact hcs.get hb
     .rw[if_neg h8]at hb;rw[if_neg amM];simpa using hz.get hb
    obtain⟨cs,r1,r2⟩:=T7 hT hp h3 hf hsp;refine⟨cs,?_,r2⟩;simp only[ajP,Instr.fill,hp _ _ h1];rw[if_neg (by simp at hlen hzl⊢;omega)];rw[<- r1];rw[<- Array.foldl_toList,Array.toList_zipIdx]
end
section
variable {P:Program}{w0:World}{S0:SB}{E:Env}{L:List Blk}{w:World}{T:Tm}{a:Act}
theorem UH:∀(l:List Field),(∀f∈l,(cL P f.type).isSome=true) ->
  (l.mapM (m:=Sem) λf=>do pure (f.offset,<- sizeOf f.type)).run P w=.ok (l.map λf=>(f.offset,(cL P f.type).getD 0)) w
 |[],_=>amN
 | f::l,h=>by
   have hn:=h f amN;rw[Option.isSome_iff_exists]at hn;obtain⟨n,hn⟩:=hn;have ih:=UH l λg hg=>h g (by simp[hg])
   rw[amj,ajB,ajB,bX hn];simp_all
theorem Y8{t:TypeId}{fs:Array Field}{ps:List (Nat×Operand)}{z l:List AV}{m:List (Nat×Nat×Opd)}(hT:TR E T a)(hR:Rel w0 S0 E L w)(hd:P.underlying t=some (.struct fs))(hz:zOf P t=some z)(hk:fs.toList.all (λf=>(cL P f.type).isSome)=true)(hm:gp P (.struct fs) ps=some m)(hf:jq T z m=some l):
  cS P w0 S0 E L (.agg l) w (Instr.build t ⟨ps.map λ(i,x)=>(i,a.eval x)⟩):=by
 obtain⟨v,h1,h2,_⟩:=OK (w:=w) (E:=E) hz;obtain⟨cs,h3,h4⟩:=T7 (place:=λi=>(fs.toList.map λf=>(f.offset,(cL P f.type).getD 0)).toArray[i]?) hT (λi r hr=>by simp only[QT]at hr;split at hr<;>simp at hr;rename_i f hf';obtain⟨n,h5,rfl⟩:=hr;simp[hf',h5]) hm hf h2
 refine .same hR (v:=.agg cs) ?_ ⟨cs.toList,rfl,h4⟩;have:=UH (P:=P) (w:=w) fs.toList (ajE.1 hk);simp only[Instr.build,ajB,h1,ajC,run_underlying hd,Array.mapM_eq_mapM_toList,Sem.run_map,this];simp_all
theorem Y9{t e:TypeId}{n:Nat}{ps:List (Nat×Operand)}{z l:List AV}{m:List (Nat×Nat×Opd)}(hT:TR E T a)(hR:Rel w0 S0 E L w)(hd:P.underlying t=some (.array n e))(hz:zOf P t=some z)(hm:gp P (.array n e) ps=some m)(hs:(cL P e).isSome=true)(hf:jq T z m=some l):
  cS P w0 S0 E L (.agg l) w (Instr.build t ⟨ps.map λ(i,x)=>(i,a.eval x)⟩):=by
 obtain⟨v,h1,h2,_⟩:=OK (w:=w) (E:=E) hz;rw[Option.isSome_iff_exists]at hs;obtain⟨s,hs⟩:=hs;obtain⟨cs,h3,h4⟩:=T7 (place:=λi=>some (i*s,s)) hT (λi r hr=>by simp only[QT,hs,ajQ]at hr;exact hr) hm hf h2
 refine .same hR (v:=.agg cs) ?_ ⟨cs.toList,rfl,h4⟩;simp only[Instr.build,ajB,h1,ajC,run_underlying hd,bX hs];simp[*]
theorem iR(z:List AV):∀n,(fq z n).length=n*z.length
 |0=>by simp[fq]
 |n+1=>by simp[fq,iR z n,alJ];omega
theorem WG{z:List AV}(hz:0<z.length):∀(n i:Nat),i<n*z.length->(fq z n)[i]?=z[i%z.length]?
 |0,i,h=>by simp at h
 | n+1,i,h=>by
   simp only[fq];rcases ajT i z.length with h1|h1
   .rw[ajw h1,Nat.mod_eq_of_lt h1]
   .rw[ajG h1,WG hz n (i-z.length) (by rw[alJ]at h;omega)];rw[Nat.mod_eq_sub_mod h1]
theorem O0{z:List AV}{vs:List Value}(h:VRL E z vs)(n:Nat):VRL E (fq z n) ((List.range (n*vs.length)).map λi=>vs.toArray[i%vs.toArray.size]!):=by
 have hl:=h.length;refine VRL.of_get (by simp[iR,hl]) λi x hx=>?_
 have hi:i<n*z.length:=by have:=(ajr.1 hx).1;rwa[iR]at this
 have hz:0<z.length:=by grind
 rw[WG hz n i hi]at hx;obtain⟨v,h1,h2⟩:=h.get hx;simp[*]
theorem Q8:∀{m:List (Nat×Nat×Opd)}{z l:List AV},jq T z m=some l->l.length=z.length
 |[],z,l,h=>by simp[jq]at h;rw[h]
 | (o,s,x)::m,z,l,h=>by
   simp only[jq]at h;split at h<;>try simp at h
   rename_i vals _;obtain⟨⟨h5,h6⟩,h⟩:=h;rw[Q8 h,kz amM]
theorem Za{t e:TypeId}{n s:Nat}{own:Bool}{ps:List (Nat×Operand)}{z l:List AV}{m:List (Nat×Nat×Opd)}(hT:TR E T a)(hR:Rel w0 S0 E L w)(hd:P.underlying t=some (.slice e))(hs:cL P e=some s)(hz:zOf P e=some z)(hzl:z.length=s)(hn:n*s<=2^24)(hm:gp P (.slice e) ps=some m)(hf:jq T (fq z n) m=some l):
  if own then cS P w0 S0 E (L++[.cells l]) (.lsl L.length 0 n (some n) s) w (Instr.buildSlice t n ⟨ps.map λ(i,x)=>(i,a.eval x)⟩)
  else cS P w0 S0 E L (.sl l n (some n)) w (Instr.buildSlice t n ⟨ps.map λ(i,x)=>(i,a.eval x)⟩):=by
 obtain⟨v,h1,h2,_⟩:=OK (w:=w) (E:=E) hz;have hvl:v.cells.size=s:=by have:=h2.length;simpa[hzl]using this
 have hrep:VRL E (fq z n) ((Array.range (n*s)).map (v.cells[· % v.cells.size]!)).toList:=by have:=O0 h2 n;simp_all
 obtain⟨cs,h3,h4⟩:=T7 (place:=λi=>some (i*s,s)) hT (λi r hr=>by simp only[QT,hs,ajQ]at hr;exact hr) hm hf hrep
 have hll:l.length=n*s:=by rw[Q8 hf,iR,hzl]
 have hlen:=h4.length;have run:(Instr.buildSlice t n ⟨ps.map λ(i,x)=>(i,a.eval x)⟩).run P w=.ok (.slice (some ⟨w.heap.size,0,none⟩) n n) {w with heap:=w.heap.push (.cells cs e)}:=by by_cases h0:n*s=0;have hr:Array.range 0=#[]:=rfl;simp[h0,hr]at h3;simp[Instr.buildSlice,run_underlying hd,bX hs,h0,hr,newRow];simp[*];simp[Instr.buildSlice,run_underlying hd,bX hs,show ¬(n*s>2^24)by omega,h0,h1,newRow];simp_all
 split;obtain⟨E',r1,r2,r3⟩:=pY hR h4 [] e (0,0) amN;refine⟨E',_,_,run,r1,?_,by simpa using r3⟩;exact⟨_,n,0,r2,rfl,amN,ajs _,amN,by simp at hlen⊢;omega⟩;obtain⟨E',r1,r2,r3,r4⟩:=hR.imm cs.toList e l h4 [] (0,0);refine⟨E',_,_,run,r1,?_,by simpa using r2⟩;simp only[VR]
 grind
theorem aam{t:TypeId}{v x:Value}{p:AV}{i off sz:Nat}{l vals:List AV}(hR:Rel w0 S0 E L w)(hs:cL P t=some sz)(hp:p=.ptr i off)(hv:VR E p v)(hi:L[i]?=some (.cells l))(hx:VRL E vals x.cells.toList)(hone:vals.all AV.one=true)(hlen:vals.length=sz)(hlt:off+sz<=l.length):
  ∃w',(Instr.storeAt t v x).run P w=.ok () w'/\Rel w0 S0 E (L.set i (.cells (dw l off vals))) w':=by
 subst hp;obtain⟨c,hc,rfl⟩:=hv;have hl:=hx.length;obtain⟨w',h1,h2⟩:=OU (P:=P) (off:=off) hR hi hc hx (by simpa using hone) amM;refine⟨w',?_,h2⟩;have:x.cells.size=sz:=by simpa[hlen]using hl
 simp[Instr.storeAt,Instr.sureAddr,storeVar,bX hs,this,h1]
theorem Zb{t:TypeId}{v x:Value}{p:AV}{i off sz:Nat}{l vals:List AV}(hR:Rel w0 S0 E L w)(hs:cL P t=some sz)(hp:p=.ptr i off)(hv:VR E p v)(hi:L[i]?=some (.bytes l))(hx:VRL E vals x.cells.toList)(hone:vals.all AV.one=true)(hlen:vals.length=sz)(hlt:off+sz<=l.length):
  ∃w',(Instr.storeAt t v x).run P w=.ok () w'/\Rel w0 S0 E (L.set i (.bytes (dw l off vals))) w':=by
 subst hp;obtain⟨c,hc,rfl⟩:=hv;have hl:=hx.length;obtain⟨w',h1,h2⟩:=abN (P:=P) (off:=off) hR hi hc hx (by simpa using hone) amM;refine⟨w',?_,h2⟩;have:x.cells.size=sz:=by simpa[hlen]using hl
 simp[Instr.storeAt,Instr.sureAddr,storeVar,bX hs,this,h1]
theorem agr{op:UnOp}{x y:AV}{v:Value}(hR:Rel w0 S0 E L w)(hv:VR E x v)(h:un op x=some y):cS P w0 S0 E L y w (Op.unary op v):=by unfold un at h;split at h<;>simp at h<;>subst h<;>simp only[VR]at hv<;>subst hv;exact .same hR (v:=.int _ _) (by simp[Op.unary,Op.intArith]) rfl;exact .same hR (v:=.bool _) (by simp[Op.unary]) rfl
theorem acC{op:BinOp}{t:TypeId}{k:IntKind}{m n:Int}{y:AV}{c:Prop}(hR:Rel w0 S0 E L w)(h:agG op k m n=some (c,y))(hc:c):
  cS P w0 S0 E L y w (binOp op t (.int k m) (.int k n)):=by
 cases op<;>simp only[agG,ajt,ajH,reduceCtorEq]at h<;>obtain⟨rfl,rfl⟩:=h
 case quo=>exact .same hR (v:=.int _ _) (by simp[binOp,Op.intDiv,hc]) rfl
 case rem=>exact .same hR (v:=.int _ _) (by simp[binOp,Op.intDiv,hc]) rfl
 case add|sub|mul=>exact .same hR (v:=.int _ _) (by simp[binOp,Op.intArith]) rfl
 case and|or|xor|andNot=>exact .same hR (v:=.int _ _) (by simp[binOp,Op.intBits]) rfl
 case eql =>
  refine .same hR (v:=.bool (m == n)) (by simp[binOp,Op.intCmp]) ?_;rfl
 case neq =>
  refine .same hR (v:=.bool (m != n)) (by simp[binOp,Op.intCmp]) ?_;rfl
 all_goals exact .same hR (v:=.bool _) (by simp[binOp,Op.intCmp]) rfl
theorem acB{op:BinOp}{t:TypeId}{x z:List UInt8}{y:AV}{c:Prop}(hR:Rel w0 S0 E L w)(h:agF op x z=some (c,y))(hc:c):
  cS P w0 S0 E L y w (binOp op t (.string ⟨⟨x⟩⟩) (.string ⟨⟨z⟩⟩)):=by
 have e1:(ByteArray.mk ⟨x⟩).toList=x:=amk x;have e2:(ByteArray.mk ⟨z⟩).toList=z:=amk z;have e3:(x == z)=decide (x=z):=by by_cases h:x=z<;>simp[h]
 cases op<;>simp only[agF,ajt,ajH,reduceCtorEq]at h<;>obtain⟨rfl,rfl⟩:=h
 case add =>
  refine .same hR (v:=.string ⟨⟨x++z⟩⟩) ?_ rfl;have hs1:(ByteArray.mk ⟨x⟩).size=x.length:=rfl;have hs2:(ByteArray.mk ⟨z⟩).size=z.length:=rfl;have hm:¬(((x.length+z.length:Nat):Int)>IntKind.i64.max):=by simp_all
  simp only[binOp,Op.stringOp,hs1,hs2,if_neg hm];rfl
 all_goals exact .same hR (v:=.bool _) (by simp[binOp,Op.stringOp,e1,e2,e3];try rfl) rfl
end
section
variable {P:Program}{w0:World}{S0:SB}{E:Env}{L:List Blk}{w:World}{T:Tm}{a:Act}
theorem aey{op:BinOp}{t:TypeId}{x y:AV}{u v:Value}{r:AV}{c:Prop}(hR:Rel w0 S0 E L w)(hx:VR E x u)(hy:VR E y v)(h:bin op x y=some (c,r))(hc:c):
  cS P w0 S0 E L r w (binOp op t u v):=by
 unfold bin at h;split at h;simp only[ajt,ajH]at h;obtain⟨rfl,rfl⟩:=h;simp only[VR]at hx hy;subst hx hy;exact .same hR (v:=.int _ _) (by simp[binOp,Op.shift,show ¬(_<(0:Int))from Int.not_lt.2 hc]) rfl;simp only[ajt,ajH]at h;obtain⟨rfl,rfl⟩:=h;simp only[VR]at hx hy;subst hx hy;exact .same hR (v:=.int _ _) (by simp[binOp,Op.shift,show ¬(_<(0:Int))from Int.not_lt.2 hc]) rfl;split at h;rename_i e;subst e;simp only[VR]at hx hy;subst hx hy;exact acC hR h hc;cases h;simp only[VR]at hx hy;subst hx hy;exact acB hR h hc;cases h
theorem Vi(t:TypeId)(x y:Value):Op.equal t x y=Op.equalIn (9999+1) t x y:=rfl
def EqK.fits:EqK->TypeDesc->Bool
 |.bool,.bool|.ptr,.pointer _|.slice,.slice _|.map,.map _ _|.func,.func _ _ _|.iface,.interface _=>true
 |_,_=>false
theorem VR.ptr_shape{i off:Nat}{v:Value}(h:VR E (.ptr i off) v):∃p,v=.pointer (some p):=by simp only[VR]at h;obtain⟨_,_,h⟩:=h;exact⟨_,h⟩
theorem VR.iptr_shape{l:List AV}{off:Nat}{v:Value}(h:VR E (.iptr l off) v):∃p,v=.pointer (some p):=by simp only[VR]at h;obtain⟨_,_,h,_⟩:=h;exact⟨_,h⟩
theorem VR.lsl_shape{i off n s:Nat}{c:Option Nat}{v:Value}(h:VR E (.lsl i off n c s) v):∃p c,v=.slice (some p) n c:=by simp only[VR]at h;obtain⟨_,_,_,_,h,_⟩:=h;exact⟨_,_,h⟩
theorem VR.lmap_shape{i:Nat}{v:Value}(h:VR E (.lmap i) v):∃p,v=.map (some p):=by simp only[VR]at h;obtain⟨_,_,h⟩:=h;exact⟨_,h⟩
theorem VR.func_shape{f:FuncId}{l:List AV}{v:Value}(h:VR E (.func f l) v):∃p,v=.func (.func f) #[] p:=by simp only[VR]at h;obtain⟨_,h,_⟩:=h;exact⟨_,h⟩
theorem VR.iface_shape{t:TypeId}{x:AV}{v:Value}(h:VR E (.iface t x) v):∃p,v=.iface t p:=by simp only[VR]at h;obtain⟨_,h,_⟩:=h;exact⟨_,h⟩
set_option maxHeartbeats 2000000 in
theorem agv{k:EqK}{t:TypeId}{d:TypeDesc}{x y:AV}{u v:Value}{r:Bool}(hx:VR E x u)(hy:VR E y v)(hd:P.underlying t=some d)(hk:k.fits d=true)(h:eqA k x y=some r):
  (Op.equal t u v).run P w=.ok r w/\(∀k m,u≠.int k m)/\(∀s,u≠.string s)/\(∀l,u≠.agg l)/\(u=.nilIface->v=.nilIface->k=.iface)/\(∀k f,u≠.float k f)/\(∀k f g,u≠.complex k f g):=by
 rw[Vi];generalize 9999=depth;unfold eqA at h;split at h<;>simp at h<;>subst h<;>cases d<;>simp[EqK.fits]at hk
 all_goals
  (first
   |(obtain⟨_,rfl⟩:=hx.ptr_shape)|(obtain⟨_,rfl⟩:=hx.iptr_shape)|(obtain⟨_,_,rfl⟩:=hx.lsl_shape)
   |(obtain⟨_,rfl⟩:=hx.lmap_shape)|(obtain⟨_,rfl⟩:=hx.func_shape)|(obtain⟨_,rfl⟩:=hx.iface_shape)|(simp only[VR]at hx;subst hx))
  (first
   |(obtain⟨_,rfl⟩:=hy.ptr_shape)|(obtain⟨_,rfl⟩:=hy.iptr_shape)|(obtain⟨_,_,rfl⟩:=hy.lsl_shape)
   |(obtain⟨_,rfl⟩:=hy.lmap_shape)|(obtain⟨_,rfl⟩:=hy.func_shape)|(obtain⟨_,rfl⟩:=hy.iface_shape)|(simp only[VR]at hy;subst hy))
  (refine⟨?_,amN,amN,amN,amN,amN,amN⟩)
  (simp only[Op.equalIn,ajB,run_underlying hd,ajC,aj2,Option.isNone,beq_self_eq_true])
 rfl
theorem ags{op:BinOp}{k:EqK}{t:TypeId}{d:TypeDesc}{x y:AV}{u v:Value}{r:Bool}(neg:Bool)(hop:op=if neg then .neq else .eql)(hR:Rel w0 S0 E L w)(hx:VR E x u)(hy:VR E y v)(hd:P.underlying t=some d)(hk:k.fits d=true)(h:eqA k x y=some r)(X Y:Operand)(hif:k=.iface->(jo X ||jo Y)=true):
  cS P w0 S0 E L (.bool (if neg then !r else r)) w (do eqGuard op t X Y u v;binOp op t u v):=by
 obtain⟨h1,n1,n2,n3,n4,n5,n6⟩:=agv (P:=P) (w:=w) hx hy hd hk h;have hg:(eqGuard op t X Y u v).run P w=.ok () w:=by
  subst hop;unfold eqGuard;cases neg<;>simp
  all_goals
   split
   .have:=hif (n4 rfl rfl);cases X<;>cases Y<;>simp[jo]at this<;>simp
   .exact absurd rfl (n3 _)
   .rfl
 refine .same hR (v:=.bool (if neg then !r else r)) ?_ (by simp[VR]);rw[ajB,hg,ajC];subst hop;cases neg<;>simp only[if_true,if_false,ajK]
 all_goals
  cases u<;>first
   |exact absurd rfl (n1 _ _)
   |exact absurd rfl (n2 _)
   |exact absurd rfl (n5 _ _)
   |exact absurd rfl (n6 _ _ _)
   |simp[binOp,h1]
theorem aan{op:BinOp}{t e:TypeId}{u:Value}{n:Nat}(neg:Bool)(hop:op=if neg then .neq else .eql)(hR:Rel w0 S0 E L w)(hd:P.underlying t=some (.slice e))(hu:∃p c,u=.slice p n c/\(p=none->n=0))(X Y:Operand):
  cS P w0 S0 E L (if n=0 then .anyb else .bool neg) w (do eqGuard op t X Y u (.slice none 0 0);binOp op t u (.slice none 0 0)):=by
 obtain⟨p,c,rfl,hp⟩:=hu;have h1:(Op.equal t (.slice p n c) (.slice none 0 0)).run P w=.ok p.isNone w:=by rw[Vi];generalize 9999=depth;simp only[Op.equalIn,ajB,run_underlying hd,ajC,aj2,Option.isNone];cases p<;>rfl
 have hg:(eqGuard op t X Y (.slice p n c) (.slice none 0 0)).run P w=.ok () w:=by unfold eqGuard;simp
 refine .same hR (v:=.bool (if neg then !p.isNone else p.isNone)) ?_ ?_;rw[ajB,hg,ajC];subst hop;cases neg<;>simp[binOp,h1];split;exact⟨_,rfl⟩;rename_i hn;cases p with
 |none=>exact absurd (hp rfl) hn
 |some p=>cases neg<;>rfl
theorem acA{s d:TypeId}{k:IntKind}{n:Int}{v:Value}{q:IntKind}(hR:Rel w0 S0 E L w)(hs:∃j,P.underlying s=some (.int j))(hd:P.underlying d=some (.int k))(hv:VR E (.int q n) v):
  cS P w0 S0 E L (.int k (k.wrap n)) w (convert s d v):=by
 obtain⟨j,hs⟩:=hs;simp only[VR]at hv;subst hv;exact .same hR (v:=.int _ _) (by simp[convert,run_underlying hs,run_underlying hd,Conv.intToInt]) rfl
theorem aap{s d:TypeId}{v:Value}{x:AV}(hR:Rel w0 S0 E L w)(hs:P.underlying s=some .string)(hd:P.underlying d=some .string)(hv:VR E x v)(hx:∃l,x=.str l):
  cS P w0 S0 E L x w (convert s d v):=by
 obtain⟨l,rfl⟩:=hx;simp only[VR]at hv;subst hv;exact .same hR (v:=.string _) (by simp[convert,run_underlying hs,run_underlying hd]) rfl
theorem VR.gsl_sl{l:List AV}{n i s:Nat}{v:Value}(h:VR E (.gsl l n i s) v):VR E (.sl l n none) v/\l.length=n*s:=by
 simp only[VR]at h⊢
 grind
theorem OW{sz n k:Nat}{l:List AV}{cap:Option Nat}{v:Value}(hR:Rel w0 S0 E L w)(hv:VR E (.sl l n cap) v)(hl:l.length=n*sz)(hk:k<=n):
  (Builtin.lenOf v).run P w=.ok n w/\∃cs,VRL E (l.take (k*sz)) cs/\cs.length=k*sz/\(Builtin.firstCells sz k v).run P w=.ok ⟨cs⟩ w:=by
 have hks:k*sz<=n*sz:=akC _ hk;have hlen:(l.take (k*sz)).length=k*sz:=by simp;omega
 obtain⟨p,c,rfl,h1,h2,h3⟩:=hv;refine⟨by simp[Builtin.lenOf],?_⟩;rcases h3 with⟨rfl,rfl,rfl⟩|⟨b,o,rfl,h3⟩;have:k=0:=amM;subst this;exact⟨[],by simp[VRL],amN,by cases p<;>simp[Builtin.firstCells,loadCells,loadCellsFrom]⟩;obtain⟨cs,h4,h5⟩:=gQ (P:=P) (w:=w) (b:=b) (o:=o) (l:=l.take (k*sz)) λj a ha=>by obtain⟨x,h6,h7⟩:=(h3.take (k*sz)).get ha;exact⟨x,hR.mem _ _ _ h6,h7⟩
 exact⟨cs,h4,by rw[h4.length,hlen],by rw[hlen]at h5;simpa[Builtin.firstCells]using h5⟩
theorem bM{sz:Nat}{x:AV}{v:Value}{c:Prop}{l:List AV}{n:Nat}(hR:Rel w0 S0 E L w)(hv:VR E x v)(h:elems L sz x=some (c,l,n))(hc:c):
  (Builtin.lenOf v).run P w=.ok n w/\l.length=n*sz/\∃cs,VRL E l cs/\(Builtin.firstCells sz n v).run P w=.ok ⟨cs⟩ w:=by
 unfold elems at h;split at h;simp only[ajt,ajH]at h;obtain⟨rfl,rfl,rfl⟩:=h;simp only[VR]at hv;subst hv;exact⟨by simp[Builtin.lenOf],amN,[],by simp[VRL],by simp[Builtin.firstCells]⟩;rename_i l m cap;simp only[ajt,ajH]at h;obtain⟨rfl,rfl,rfl⟩:=h;obtain⟨h1,cs,h2,_,h3⟩:=OW (P:=P) hR hv hc (ajs _)
 grind
 rename_i l m i s;simp only[ajt,ajH]at h;obtain⟨rfl,rfl,rfl⟩:=h;subst hc;obtain⟨hv,hc⟩:=hv.gsl_sl;obtain⟨h1,cs,h2,_,h3⟩:=OW (P:=P) hR hv hc (ajs _)
 grind
 rename_i i off m cap s;split at h;rename_i l' hL;simp only[ajt,ajH]at h;obtain⟨rfl,rfl,rfl⟩:=h;simp only[VR]at hv;obtain⟨k,rc,d,h1,rfl,h2,h3,h4,h5⟩:=hv;obtain⟨k',cs0,ty,fr,g1,g2,g3,g4,g5,g6⟩:=hR.blk i _ hL;rw[h1]at g1;cases g1;have hlen:((l'.drop off).take (m*sz)).length=m*sz:=by simp;omega
 refine⟨by simp[Builtin.lenOf],hlen,?_⟩;rcases akM m with hm|hm;subst hm;exact⟨[],by simp[VRL],by simp[Builtin.firstCells,loadCells,loadCellsFrom]⟩;have hd:=h2 amM;subst hd;obtain⟨cs,h6,h7⟩:=gQ (P:=P) (w:=w) (b:=k.blk) (o:=k.off+off) (l:=(l'.drop off).take (m*sz)) λj a ha=>by have hj:j<m*sz:=(by have:=(ajr.1 ha).1;omega);rw[akj hj,aki]at ha;obtain⟨x,h8,h9⟩:=g5 _ _ ha;refine⟨x,?_,h9⟩;rw[<- akD]at h8;simp[World.cell?,g2,h8]
 exact⟨cs,h6,by rw[hlen]at h7;simpa[Builtin.firstCells]using h7⟩;rename_i l' hL;simp only[ajt,ajH]at h;obtain⟨rfl,rfl,rfl⟩:=h;simp only[VR]at hv;obtain⟨k,rc,d,h1,rfl,h2,h3,h4,h5⟩:=hv;obtain⟨k',cs0,ty,fr,g1,g2,g3,g4,g5,g6⟩:=hR.blk i _ hL;rw[h1]at g1;cases g1;have hlen:((l'.drop off).take (m*sz)).length=m*sz:=by simp;omega
 refine⟨by simp[Builtin.lenOf],hlen,?_⟩;rcases akM m with hm|hm;subst hm;exact⟨[],by simp[VRL],by simp[Builtin.firstCells,loadCells,loadCellsFrom]⟩;have hd:=h2 amM;subst hd;obtain⟨cs,h6,h7⟩:=gQ (P:=P) (w:=w) (b:=k.blk) (o:=k.off+off) (l:=(l'.drop off).take (m*sz)) λj a ha=>by have hj:j<m*sz:=(by have:=(ajr.1 ha).1;omega);rw[akj hj,aki]at ha;obtain⟨x,h8,h9⟩:=g5 _ _ ha;refine⟨x,?_,h9⟩;rw[<- akD]at h8;simp[World.cell?,g2,h8]
 exact⟨cs,h6,by rw[hlen]at h7;simpa[Builtin.firstCells]using h7⟩;cases h;split at h;rename_i s hsz;simp only[ajt,ajH]at h;obtain⟨rfl,rfl,rfl⟩:=h;simp only[VR]at hv;subst hv;subst hsz;refine⟨by simp[Builtin.lenOf];rfl,by simp[u8s],s.map λb=>.int .u8 b.toNat,?_,?_⟩;refine VRL.of_get (by simp[u8s]) λi a ha=>?_
 simp only[u8s,akr,ajW]at ha⊢;obtain⟨b,h1,rfl⟩:=ha;exact⟨_,⟨b,h1,rfl⟩,rfl⟩;have:(ByteArray.mk ⟨s⟩).extract 0 s.length=⟨⟨s⟩⟩:=by apply ByteArray.ext;simp
 simp[Builtin.firstCells,this];cases h;cases h
end
section
variable {P:Program}{w0:World}{S0:SB}{E:Env}{L:List Blk}{w:World}{T:Tm}{a:Act}
theorem VM:∀(l:List AV) (cs:List Value) (s:ByteArray),VRL E l cs->l.all aaf=true ->
  ((forIn (m := Sem) cs s fun c r => match c with
    |.int .u8 n=>pure (.yield (r.push (UInt8.ofNat n.toNat)))
    | _=>do
      stuck (α:=PUnit) "bytesToString: byte expected"
      pure (.yield r)):Sem ByteArray).run P w=.ok ⟨s.data++(l.map Xi).toArray⟩ w
 |[],cs,s,h,_=>by simp only[VRL]at h;subst h;simp
 | a::l,cs,s,h,hb=>by
   obtain⟨x,xs,rfl,h2,h3⟩:=h;simp only[akL,ajv]at hb;obtain⟨hb1,hb2⟩:=hb;have:∃n,a=.int .u8 n:=by
    unfold aaf at hb1
    grind
   obtain⟨n,rfl⟩:=this;simp only[VR]at h2;subst h2;have ih:=VM l xs (s.push (UInt8.ofNat n.toNat)) h3 hb2;simp only[List.forIn_cons,ajB,aj2,ajC];rw[ih];congr 1;simp[ByteArray.push,Xi]
theorem Jr(w:World)(c:Array Value)(e:TypeId):World.freeze {w with heap:=w.heap.push (.cells c e)} ⟨w.heap.size,c.size,none⟩ 1={w with heap:=w.heap.push (.cells c e (c.size,c.size+1))}:=by
 simp only[World.freeze,Nat.one_ne_zero,if_false];congr 1
 grind
theorem N8(w:World)(c:Array Value)(e:TypeId):World.shape? {w with heap:=w.heap.push (.cells c e)} w.heap.size=some (e,c.size):=by simp only[World.shape?,Array.getElem?_push_size]
theorem aez{s d e:TypeId}{x:AV}{v:Value}{c:Prop}{l:List AV}{n:Nat}(hR:Rel w0 S0 E L w)(hs:P.underlying s=some (.slice e))(he:P.underlying e=some (.int .u8))(hd:P.underlying d=some .string)(hv:VR E x v)(h:elems L 1 x=some (c,l,n))(hc:c)(hb:l.all aaf=true)(hx:∀t,x≠.str t):cS P w0 S0 E L (.str (l.map Xi)) w (convert s d v):=by
 obtain⟨h1,h2,cs,h3,h4⟩:=bM (P:=P) hR hv h hc;refine .same hR (v:=.string ⟨⟨l.map Xi⟩⟩) ?_ (by simp[VR]);have hsl:∃a n c,v=.slice a n c:=by cases x<;>simp[elems]at h;simp_all;simp only[VR]at hv;exact⟨_,_,_,hv⟩;simp only[VR]at hv;obtain⟨_,_,rfl,_⟩:=hv;exact⟨_,_,_,rfl⟩;obtain⟨_,_,rfl⟩:=hv.lsl_shape;exact⟨_,_,_,rfl⟩;simp only[VR]at hv;obtain⟨_,_,rfl,_⟩:=hv;exact⟨_,_,_,rfl⟩
 obtain⟨a,m,k,rfl⟩:=hsl;have hm:m=n:=by simpa[Builtin.lenOf]using h1
 subst hm;have hcv:(convert s d (.slice a m k)).run P w=(Conv.bytesToString (.slice a m k)).run P w:=by simp[convert,run_underlying hs,run_underlying hd,run_underlying he]
 rw[hcv];cases a with
 | none =>
   have:cs=[]:=(by simpa[Builtin.firstCells]using h4.symm);subst this;have hl:l=[]:=(by have:=h3.length;simpa using this.symm);subst hl;rfl
 | some p =>
   simp only[Builtin.firstCells,Nat.mul_one]at h4;simp only[Conv.bytesToString,ajB,h4,ajC];have:=VM (P:=P) (w:=w) l cs ByteArray.empty h3 hb;rw[show(⟨cs⟩:Array Value)=cs.toArray from rfl,List.forIn_toArray];refine(congrArg (λr=>Result.andThen r λa w'=>(Pure.pure (Value.string a):Sem Value).run P w') this).trans ?_;simp
theorem aew{s d e:TypeId}{v:Value}{x:List UInt8}(hR:Rel w0 S0 E L w)(hs:P.underlying s=some .string)(hd:P.underlying d=some (.slice e))(he:P.underlying e=some (.int .u8))(hv:VR E (.str x) v):
  cS P w0 S0 E L (.sl (u8s x) x.length none) w (convert s d v):=by
 simp only[VR]at hv;subst hv;have hsz:(ByteArray.mk ⟨x⟩).size=x.length:=rfl;obtain⟨cap,hcap⟩:∃cap,cap=(Question.appendCap x.length 0 e).cut (w.tape w.drawn (.appendCap x.length 0 e)):=⟨_,rfl⟩;have hge:x.length<=cap:=by rw[hcap];simp[Question.cut]
 have hrel:VRL E (u8s x) (x.map λb=>Value.int .u8 b.toNat):=VRL.of_get (by simp[u8s]) λi a ha=>by simp only[u8s,akr,ajW]at ha⊢;obtain⟨b,h1,rfl⟩:=ha;exact⟨_,⟨b,h1,rfl⟩,rfl⟩
 have hR':Rel w0 S0 E L {w with drawn:=w.drawn+1}:=⟨hR.mem,λi k hk=>bS.world (λ_ _=>rfl) (λ_ _ _ _=>rfl) (hR.blk i k hk),hR.fresh,hR.own,hR.inj,hR.tkfresh,hR.tkown,hR.tkloc,hR.tkinj,hR.frame,hR.size,hR.os,hR.tape,hR.output,hR.glob,hR.gsz⟩;obtain⟨E2,q1,q2,q3,_⟩:=hR'.imm (x.map λb=>Value.int .u8 b.toNat) e (u8s x) hrel (List.replicate (cap-x.length) (.int .u8 0)) (x.length+(cap-x.length),x.length+(cap-x.length)+1);have key:(convert s d (.string ⟨⟨x⟩⟩)).run P w=.ok (.slice (some ⟨w.heap.size,0,none⟩) x.length cap) {w with heap:=w.heap.push (.cells ⟨(x.map λb=>Value.int .u8 b.toNat)++List.replicate (cap-x.length) (.int .u8 0)⟩ e (x.length+(cap-x.length),x.length+(cap-x.length)+1)),drawn:=w.drawn+1}:=by
  have hdata:((ByteArray.mk ⟨x⟩).data.map λb=>Value.int .u8 b.toNat)++Array.replicate (cap-x.length) (.int .u8 0)=⟨(x.map λb=>Value.int .u8 b.toNat)++List.replicate (cap-x.length) (.int .u8 0)⟩:=by simp
  have hcs:(convert s d (.string ⟨⟨x⟩⟩)).run P w=(Conv.stringToBytes e ⟨⟨x⟩⟩).run P w:=by simp only[convert,ajB,run_underlying hs,run_underlying hd,ajC,run_underlying he]
  rw[hcs];unfold Conv.stringToBytes;simp only[ajB,run_choose,Question.forced,hsz,<- hcap,hdata,newRow,run_newObj,ajC,aj2,markStringish,run_shape,ajK,if_false];rw[N8 {w with drawn:=w.drawn+1}];simp only[run_freeze,ajC];rw[Jr {w with drawn:=w.drawn+1}];simp
 refine⟨E2,.slice (some ⟨w.heap.size,0,none⟩) x.length cap,_,key,q1,?_,q2⟩;simp only[VR]
 grind
theorem acu{s d e:TypeId}{v:Value}{x:List UInt8}(hR:Rel w0 S0 E L w)(hs:P.underlying s=some .string)(hd:P.underlying d=some (.slice e))(he:P.underlying e=some (.int .u8))(hv:VR E (.str x) v):
  cS P w0 S0 E (L++[.bytes (u8s x)]) (.lsl L.length 0 x.length none 1) w (convert s d v):=by
 simp only[VR]at hv;subst hv;have hsz:(ByteArray.mk ⟨x⟩).size=x.length:=rfl;obtain⟨cap,hcap⟩:∃cap,cap=(Question.appendCap x.length 0 e).cut (w.tape w.drawn (.appendCap x.length 0 e)):=⟨_,rfl⟩;have hge:x.length<=cap:=by rw[hcap];simp[Question.cut]
 have hrel:VRL E (u8s x) (x.map λb=>Value.int .u8 b.toNat):=VRL.of_get (by simp[u8s]) λi a ha=>by simp only[u8s,akr,ajW]at ha⊢;obtain⟨b,h1,rfl⟩:=ha;exact⟨_,⟨b,h1,rfl⟩,rfl⟩
 have hR':Rel w0 S0 E L {w with drawn:=w.drawn+1}:=⟨hR.mem,λi k hk=>bS.world (λ_ _=>rfl) (λ_ _ _ _=>rfl) (hR.blk i k hk),hR.fresh,hR.own,hR.inj,hR.tkfresh,hR.tkown,hR.tkloc,hR.tkinj,hR.frame,hR.size,hR.os,hR.tape,hR.output,hR.glob,hR.gsz⟩;obtain⟨E2,q1,q2,q3⟩:=YD hR' hrel (List.replicate (cap-x.length) (.int .u8 0)) e (x.length+(cap-x.length),x.length+(cap-x.length)+1) (by simp;omega);have key:(convert s d (.string ⟨⟨x⟩⟩)).run P w=.ok (.slice (some ⟨w.heap.size,0,none⟩) x.length cap) {w with heap:=w.heap.push (.cells ⟨(x.map λb=>Value.int .u8 b.toNat)++List.replicate (cap-x.length) (.int .u8 0)⟩ e (x.length+(cap-x.length),x.length+(cap-x.length)+1)),drawn:=w.drawn+1}:=by
  have hdata:((ByteArray.mk ⟨x⟩).data.map λb=>Value.int .u8 b.toNat)++Array.replicate (cap-x.length) (.int .u8 0)=⟨(x.map λb=>Value.int .u8 b.toNat)++List.replicate (cap-x.length) (.int .u8 0)⟩:=by simp
  have hcs:(convert s d (.string ⟨⟨x⟩⟩)).run P w=(Conv.stringToBytes e ⟨⟨x⟩⟩).run P w:=by simp only[convert,ajB,run_underlying hs,run_underlying hd,ajC,run_underlying he]
  rw[hcs];unfold Conv.stringToBytes;simp only[ajB,run_choose,Question.forced,hsz,<- hcap,hdata,newRow,run_newObj,ajC,aj2,markStringish,run_shape,ajK,if_false];rw[N8 {w with drawn:=w.drawn+1}];simp only[run_freeze,ajC];rw[Jr {w with drawn:=w.drawn+1}];simp
 refine⟨E2,.slice (some ⟨w.heap.size,0,none⟩) x.length cap,_,key,q1,?_,q3⟩;refine⟨_,cap,0,q2,rfl,amN,hge,amN,?_⟩;simp_all
theorem acv{s d e:TypeId}{v:Value}{x:List UInt8}(hR:Rel w0 S0 E L w)(hs:P.underlying s=some .string)(hd:P.underlying d=some (.slice e))(he:P.underlying e=some (.int .u8))(hv:VR E (.str x) v):
  cS P w0 S0 E (L++[.spare x.length 1]) (.gsl (u8s x) x.length L.length 1) w (convert s d v):=by
 simp only[VR]at hv;subst hv;have hsz:(ByteArray.mk ⟨x⟩).size=x.length:=rfl;obtain⟨cap,hcap⟩:∃cap,cap=(Question.appendCap x.length 0 e).cut (w.tape w.drawn (.appendCap x.length 0 e)):=⟨_,rfl⟩;have hge:x.length<=cap:=by rw[hcap];simp[Question.cut]
 have hrel:VRL E (u8s x) (x.map λb=>Value.int .u8 b.toNat):=VRL.of_get (by simp[u8s]) λi a ha=>by simp only[u8s,akr,ajW]at ha⊢;obtain⟨b,h1,rfl⟩:=ha;exact⟨_,⟨b,h1,rfl⟩,rfl⟩
 have hR':Rel w0 S0 E L {w with drawn:=w.drawn+1}:=⟨hR.mem,λi k hk=>bS.world (λ_ _=>rfl) (λ_ _ _ _=>rfl) (hR.blk i k hk),hR.fresh,hR.own,hR.inj,hR.tkfresh,hR.tkown,hR.tkloc,hR.tkinj,hR.frame,hR.size,hR.os,hR.tape,hR.output,hR.glob,hR.gsz⟩;obtain⟨E2,q1,q2,q3,q4,q5,q6⟩:=hR'.imm' (x.map λb=>Value.int .u8 b.toNat) e (u8s x) hrel (List.replicate (cap-x.length) (.int .u8 0)) (x.length+(cap-x.length),x.length+(cap-x.length)+1);have key:(convert s d (.string ⟨⟨x⟩⟩)).run P w=.ok (.slice (some ⟨w.heap.size,0,none⟩) x.length cap) {w with heap:=w.heap.push (.cells ⟨(x.map λb=>Value.int .u8 b.toNat)++List.replicate (cap-x.length) (.int .u8 0)⟩ e (x.length+(cap-x.length),x.length+(cap-x.length)+1)),drawn:=w.drawn+1}:=by
  have hdata:((ByteArray.mk ⟨x⟩).data.map λb=>Value.int .u8 b.toNat)++Array.replicate (cap-x.length) (.int .u8 0)=⟨(x.map λb=>Value.int .u8 b.toNat)++List.replicate (cap-x.length) (.int .u8 0)⟩:=by simp
  have hcs:(convert s d (.string ⟨⟨x⟩⟩)).run P w=(Conv.stringToBytes e ⟨⟨x⟩⟩).run P w:=by simp only[convert,ajB,run_underlying hs,run_underlying hd,ajC,run_underlying he]
  rw[hcs];unfold Conv.stringToBytes;simp only[ajB,run_choose,Question.forced,hsz,<- hcap,hdata,newRow,run_newObj,ajC,aj2,markStringish,run_shape,ajK,if_false];rw[N8 {w with drawn:=w.drawn+1}];simp only[run_freeze,ajC];rw[Jr {w with drawn:=w.drawn+1}];simp
 have hroom:acV w0 S0 E2 L {w with heap:=w.heap.push (.cells ⟨(x.map λb=>Value.int .u8 b.toNat)++List.replicate (cap-x.length) (.int .u8 0)⟩ e (x.length+(cap-x.length),x.length+(cap-x.length)+1)),drawn:=w.drawn+1} L.length x.length 1 (some ⟨w.heap.size,0,cap⟩):=by rintro k hk;cases hk;refine⟨⟨_,_,_,Array.getElem?_push_size,by simp;omega,λo h1 h2=>by simp only at h2⊢;omega⟩,λo ho=>q6 o (by simpa using ho),.inr hR.size,λj k' c hj hl hc e=>?_,λj n' sz' t' k' hne hj ht hk' e=>?_⟩;rw[q4]at hc;have:=hR.loc_lt hj hl hc;simp_all;rw[q5]at ht;have:=hR.tok_lt hj ht hk';simp_all
 obtain⟨r1,r2⟩:=q2.addtok (n:=x.length) (sz:=1) hroom;refine⟨_,.slice (some ⟨w.heap.size,0,none⟩) x.length cap,_,key,q1.trans r1,?_,r2⟩;exact⟨_,cap,rfl,hge,by simp[u8s],.inr ⟨_,0,rfl,VRC.mono r1 _ _ _ q3⟩,⟨x.length,1,some ⟨w.heap.size,0,cap⟩⟩,amN,amN,λ_=>⟨rfl,amN,λk hk=>by cases hk;exact⟨rfl,amN⟩⟩⟩
theorem Y4{t:TypeId}{v:Value}{x:List UInt8}(hR:Rel w0 S0 E L w)(ht:P.underlying t=some .string)(hv:VR E (.str x) v):
  cS P w0 S0 E (L++[.siter x 0]) (.ptr L.length 0) w (Instr.range t v):=by
 simp only[VR]at hv;subst hv;have:=hR.push (.stringIter ⟨⟨x⟩⟩ 0) (.siter x 0) ⟨w.heap.size,0,0⟩ rfl rfl ⟨⟨w.heap.size,0,0⟩,amN,amN,rfl⟩;refine⟨_,.pointer (some ⟨w.heap.size,0,none⟩),_,?_,this.1,?_,this.2⟩;simp[Instr.range,run_underlying ht];simp only[VR];simp
theorem aaq{t:TypeId}{v:Value}{i p:Nat}{x:List UInt8}(hR:Rel w0 S0 E L w)(hi:L[i]?=some (.siter x p))(hv:VR E (.ptr i 0) v):
  cS P w0 S0 E (if p<x.length then L.set i (.siter x (p+(Vn x p).2))else L) (if p<x.length then .tup [.bool true,.int .i64 (p:Int),.int .i32 ((Vn x p).1:Int)]else .tup [.bool false]) w (Instr.next v true t):=by
 obtain⟨c,hc,rfl⟩:=hv;obtain⟨c',h1,h2,h3⟩:=hR.blk i _ hi;rw[hc]at h1;cases h1;have hsz:(ByteArray.mk ⟨x⟩).size=x.length:=rfl;have hlt:c.blk<w.heap.size:=(akf.1 h2).1;have hg:(getObj c.blk).run P w=.ok (.stringIter ⟨⟨x⟩⟩ p) w:=by simp[getObj,Sem.run,h2]
 have hso:∀o,(setObj c.blk o).run P w=.ok () {w with heap:=w.heap.setIfInBounds c.blk o}:=λo=>by simp[setObj,Sem.run,h2]
 rw[h3];by_cases hp:p<x.length;rw[if_pos hp,if_pos hp];have:=hR.turn (w':={w with heap:=w.heap.setIfInBounds c.blk (.stringIter ⟨⟨x⟩⟩ (p+(Vn x p).2))}) (k':=.siter x (p+(Vn x p).2)) hi rfl hc amN (λb hb=>by simp[al1,Ne.symm hb]) rfl rfl rfl
  ⟨c,hc,by simp[hlt],h3⟩ (λ_ _ e=>by cases e)
 refine⟨E,.tuple #[.bool true,goInt p,.int .i32 ((Vn x p).1:Int)],_,?_,.refl E,?_,this⟩;simp[Instr.next,hg,hsz,hp,hso,Vn];simp[VR,VRL,goInt];rw[if_neg hp,if_neg hp];refine .same hR (v:=.tuple #[.bool false]) (by simp[Instr.next,hg,hsz,hp]) ?_;simp[VR,VRL]
end
section
variable {P:Program}{w0:World}{S0:SB}{E:Env}{L:List Blk}{w:World}{T:Tm}{a:Act}
theorem XL{t e:TypeId}{s b:Nat}{z:List AV}{n m:Int}{k j:IntKind}(hR:Rel w0 S0 E L w)(hd:P.underlying t=some (.slice e))(hs:cL P e=some s)(hb:VN P e=some b)(hz:zOf P e=some z)(hzl:z.length=s)(h0:0<=n)(h1:n<=m)(h2:b*m<=2^48)(h3:m<2^62):
  cS P w0 S0 E (L++[.cells (fq z m.toNat)]) (.lsl L.length 0 n.toNat (some m.toNat) s) w (Instr.makeSlice t (.int k n) (.int j m)):=by
 obtain⟨v,g1,g2,_⟩:=OK (w:=w) (E:=E) hz;have hvl:v.cells.size=s:=by have:=g2.length;simpa[hzl]using this
 have hrep:VRL E (fq z m.toNat) ((Array.range (m.toNat*s)).map (v.cells[· % v.cells.size]!)).toList:=by have:=O0 g2 m.toNat;simp_all
 obtain⟨i,hi,hib⟩:∃i,P.info? e=some i/\i.bytes=b:=by unfold VN at hb;simpa using hb
 have hty:(typeInfo e).run P w=.ok i w:=by simp[typeInfo,hi]
 obtain⟨E',r1,r2,r3⟩:=pY hR hrep [] e (0,0) amN;have w1:IntKind.i64.wrap n=n:=by simp only[IntKind.wrap,IntKind.bits,IntKind.signed];simp;omega
 have w2:IntKind.i64.wrap m=m:=by simp only[IntKind.wrap,IntKind.bits,IntKind.signed];simp;omega
 refine⟨E',.slice (some ⟨w.heap.size,0,none⟩) n.toNat m.toNat,_,?_,r1,?_,r3⟩;have c1:(decide (m<0) ||decide ((b:Int)*m>2^48))=false:=by simp;omega
 have c2:(decide (n<0))=false:=by simp;omega
 have c3:(decide (n>m))=false:=by simp;omega
 simp only[Instr.makeSlice,ajB,run_underlying hd,ajC,asInt,asIntOf,aj2,hty,hib,w1,w2,c1,c2,c3,Bool.or_self,ajK,if_false,run_askRoom,bX hs];by_cases h0:m.toNat*s=0;have hr:Array.range 0=#[]:=rfl;simp[h0,hr,newRow];simp[h0,g1,newRow];congr 2
 grind
 refine⟨_,m.toNat,0,r2,rfl,amN,amM,amN,?_⟩;simp
theorem agB{x:Option Operand}{y:Option Opd}{r:Option Int}(hT:TR E T a)(h:sY x=some y)(hb:bnd T y=some r):
  (x=none/\r=none)\/∃o k n,x=some o/\r=some n/\a.eval o=.int k n:=by
 cases x with
 |none=>simp[sY]at h;subst h;simp[bnd]at hb;exact .inl ⟨rfl,hb.symm⟩
 | some o =>
   simp only[sY,ajW]at h;obtain⟨u,h1,rfl⟩:=h;simp only[bnd]at hb;split at hb
   .rename_i k n hn;simp at hb;subst hb;have:=ao h1 hn hT;simp only[VR]at this;simp[*]
   simp_all
theorem cK{k:IntKind}{n:Int}{y:Nat}{c:BoundsCode}(h0:0<=n)(h1:n<=y):(Instr.sliceBound (.int k n) y c).run P w=.ok n.toNat w:=by simp[Instr.sliceBound,asIntOf,h0,h1]
theorem fY{b:Bool}{len cap:Nat}{lo hi:Option Operand}{lo' hi':Option Int}(hlo:(lo=none/\lo'=none)\/∃o k n,lo=some o/\lo'=some n/\a.eval o=.int k n)(hhi:(hi=none/\hi'=none)\/∃o k n,hi=some o/\hi'=some n/\a.eval o=.int k n)(h0:0<=lo'.getD 0)(h1:lo'.getD 0<=hi'.getD len)(h2:hi'.getD len<=cap)(h3:len<=cap):
  (Instr.sliceBounds b len cap (lo.map a.eval) (hi.map a.eval) none).run P w=.ok ((lo'.getD 0).toNat,(hi'.getD len).toNat,cap) w:=by
 rcases hlo with⟨rfl,rfl⟩|⟨o1,k1,n1,rfl,rfl,e1⟩<;>rcases hhi with⟨rfl,rfl⟩|⟨o2,k2,n2,rfl,rfl,e2⟩<;>simp only[aml,aks]at h0 h1 h2;rfl;simp only[Instr.sliceBounds,aj8,ajQ,e2,ajB,aj2,ajC];rw[cK amM amM];simp;simp only[Instr.sliceBounds,aj8,ajQ,e1,ajB,aj2,ajC];rw[cK amM amM];simp;simp only[Instr.sliceBounds,aj8,ajQ,e1,e2,ajB,aj2,ajC];rw[cK amM amM];simp only[ajC];rw[cK amM amM];simp
theorem aev{t:TypeId}{v:Value}{x:List UInt8}{lo hi:Option Operand}{lo' hi':Option Int}(hR:Rel w0 S0 E L w)(hd:P.underlying t=some .string)(hv:VR E (.str x) v)(hlo:(lo=none/\lo'=none)\/∃o k n,lo=some o/\lo'=some n/\a.eval o=.int k n)(hhi:(hi=none/\hi'=none)\/∃o k n,hi=some o/\hi'=some n/\a.eval o=.int k n)(h0:0<=lo'.getD 0)(h1:lo'.getD 0<=hi'.getD x.length)(h2:hi'.getD x.length<=x.length):
  cS P w0 S0 E L (.str ((x.drop (lo'.getD 0).toNat).take ((hi'.getD x.length).toNat-(lo'.getD 0).toNat))) w (Instr.sliceAt t v (lo.map a.eval) (hi.map a.eval) none):=by
 simp only[VR]at hv;subst hv;have hsz:(ByteArray.mk ⟨x⟩).size=x.length:=rfl;refine .same hR (v:=.string ⟨⟨(x.drop (lo'.getD 0).toNat).take ((hi'.getD x.length).toNat-(lo'.getD 0).toNat)⟩⟩) ?_ (by simp[VR]);have hb:=fY (P:=P) (w:=w) (b:=false) hlo hhi h0 h1 h2 (ajs _);simp only[Instr.sliceAt,Instr.slice,ajB,run_underlying hd,ajC,hsz,Option.isSome_none,ajK,if_false,hb];simp only[aj2];congr 2;apply ByteArray.ext;simp
theorem U5{t:TypeId}{fs:Array Field}{f:Nat}{fd:Field}{x:AV}{v:Value}(hR:Rel w0 S0 E L w)(hd:P.underlying t=some (.struct fs))(hf:fs.toList[f]?=some fd)(hz:(cL P fd.type).getD 0≠0)(hv:VR E x v):
  (∀i off,x=.ptr i off->cS P w0 S0 E L (.ptr i (off+fd.offset)) w (Instr.fieldAt t v f))/\(∀l off,x=.iptr l off->cS P w0 S0 E L (.iptr l (off+fd.offset)) w (Instr.fieldAt t v f)):=by
 obtain⟨n,hn⟩:∃n,cL P fd.type=some n:=by rcases h:cL P fd.type with _|n;simp_all;simp
 simp only[hn,aks]at hz;rw[amy]at hf;have run:∀b o,(Instr.fieldAt t (.pointer (some ⟨b,o,none⟩)) f).run P w=.ok (.pointer (some ⟨b,o+fd.offset,none⟩)) w:=λb o=>by simp[Instr.fieldAt,run_underlying hd,hf,Instr.sureAddr,fieldPlace,bX hn,hz,Addr.add_mk]
 refine⟨λi off e=>?_,λl off e=>?_⟩<;>subst e<;>simp only[VR]at hv;obtain⟨c,h1,rfl⟩:=hv;exact .same hR (run _ _) ⟨c,h1,by rw[akD]⟩;obtain⟨b,o,rfl,h1⟩:=hv;exact .same hR (run _ _) ⟨b,o,by rw[akD],h1⟩
theorem U4{t:TypeId}{fs:Array Field}{f sz:Nat}{g:Bool}{fd:Field}{l:List AV}{v:Value}(hR:Rel w0 S0 E L w)(hd:P.underlying t=some (.struct fs))(hf:fs.toList[f]?=some fd)(hg:ic P fd.type=some g)(hs:cL P fd.type=some sz)(hv:VR E (.agg l) v):
  (g=true->fd.offset+sz<=l.length->cS P w0 S0 E L (.agg ((l.drop fd.offset).take sz)) w (Instr.field t v f))/\(g=false->fd.offset<l.length->cS P w0 S0 E L (l.getD fd.offset .undef) w (Instr.field t v f)):=by
 rw[amy]at hf;obtain⟨vs,rfl,hvs⟩:=hv;refine⟨λe hlt=>?_,λe hlt=>?_⟩<;>subst e;refine .same hR (v:=.agg ((⟨vs⟩:Array Value).extract fd.offset (fd.offset+sz))) (by simp[Instr.field,run_underlying hd,hf,asAgg,part,xw hg,bX hs]) ?_;refine⟨(vs.drop fd.offset).take sz,amN,VRL.of_get (by simp[hvs.length]) λi x hx=>?_⟩;have hi:i<sz:=by have:=(ajr.1 hx).1;simp at this;omega
 rw[akj hi,aki]at hx⊢;exact hvs.get hx;obtain⟨x,h1,h2⟩:=hvs.get (ajF hlt);refine .same hR (v:=x) (by simp[Instr.field,run_underlying hd,hf,asAgg,part,xw hg,h1]) ?_;simp[*]
theorem Ok{t e:TypeId}{sz:Nat}{x:AV}{v:Value}{j:IntKind}{k:Int}(hR:Rel w0 S0 E L w)(hd:P.underlying t=some (.slice e))(hs:cL P e=some sz)(hv:VR E x v)(h0:0<=k):
  (∀l n c,x=.sl l n c->k<n->cS P w0 S0 E L (.iptr l (k.toNat*sz)) w (Instr.indexAt t v (.int j k))) /\
  (∀i off n c s,x=.lsl i off n c s->k<n->cS P w0 S0 E L (.ptr i (off+k.toNat*sz)) w (Instr.indexAt t v (.int j k))):=by
 have run:∀b o n c,k<(n:Nat)->(Instr.indexAt t (.slice (some ⟨b,o,none⟩) n c) (.int j k)).run P w=.ok (.pointer (some ⟨b,o+k.toNat*sz,none⟩)) w:=λb o n c hk=>by simp[Instr.indexAt,asIntOf,run_underlying hd,h0,hk,bX hs,Addr.add_mk]
 refine⟨λl n c e hk=>?_,λi off n c s e hk=>?_⟩<;>subst e<;>simp only[VR]at hv;obtain⟨p,k',rfl,h1,h2,h3⟩:=hv;rcases h3 with⟨rfl,rfl,rfl⟩|⟨b,o,rfl,h3⟩;omega;exact .same hR (run _ _ _ _ hk) ⟨b,o,rfl,h3⟩;obtain⟨c',rc,d,h1,rfl,h2,h3,h4⟩:=hv;have:=h2 amM;subst this;exact .same hR (run _ _ _ _ hk) ⟨c',h1,by rw[akD]⟩
theorem S7{t e:TypeId}{sz n:Nat}{x:AV}{v:Value}{j:IntKind}{k:Int}(hR:Rel w0 S0 E L w)(hd:P.underlying t=some (.array n e))(hs:cL P e=some sz)(hv:VR E x v)(h0:0<=k)(hk:k<n):
  (∀l off,x=.iptr l off->cS P w0 S0 E L (.iptr l (off+k.toNat*sz)) w (Instr.indexAt t v (.int j k))) /\
  (∀i off,x=.ptr i off->cS P w0 S0 E L (.ptr i (off+k.toNat*sz)) w (Instr.indexAt t v (.int j k))):=by
 have run:∀b o,(Instr.indexAt t (.pointer (some ⟨b,o,none⟩)) (.int j k)).run P w=.ok (.pointer (some ⟨b,o+k.toNat*sz,none⟩)) w:=λb o=>by simp[Instr.indexAt,asIntOf,run_underlying hd,h0,hk,bX hs,Addr.add_mk,Instr.sureAddr]
 refine⟨λl off e=>?_,λi off e=>?_⟩<;>subst e<;>simp only[VR]at hv;obtain⟨b,o,rfl,h3⟩:=hv;exact .same hR (run _ _) ⟨b,o,by rw[akD],h3⟩;obtain⟨c',h1,rfl⟩:=hv;exact .same hR (run _ _) ⟨c',h1,by rw[akD]⟩
theorem acz{t:TypeId}{s:List UInt8}{v:Value}{j:IntKind}{k:Int}(hR:Rel w0 S0 E L w)(hd:P.underlying t=some .string)(hv:VR E (.str s) v)(h0:0<=k)(hk:k<s.length):
  cS P w0 S0 E L (.int .u8 (s.getD k.toNat 0).toNat) w (Instr.index t v (.int j k)):=by
 simp only[VR]at hv;subst hv;have hk':k.toNat<s.length:=amM;refine .same hR (v:=.int .u8 (s[k.toNat]).toNat) ?_ (by simp[VR,hk']);have:(ByteArray.mk ⟨s⟩)[k.toNat]?=some s[k.toNat]:=by have hsz:k.toNat<(ByteArray.mk ⟨s⟩).size:=hk';rw[getElem?_pos (ByteArray.mk ⟨s⟩) k.toNat hsz];rfl
 simp[Instr.index,asIntOf,run_underlying hd,h0,this]
theorem XM{l:List AV}{i:Nat}{x:AV}{v:Value}(hR:Rel w0 S0 E L w)(hv:VR E (.tup l) v)(h:l[i]?=some x):cS P w0 S0 E L x w (Instr.extract v i):=by obtain⟨vs,rfl,hvs⟩:=hv;obtain⟨y,h1,h2⟩:=hvs.get h;exact .same hR (v:=y) (by simp[Instr.extract,h1]) h2
end
section
variable {P:Program}{w0:World}{S0:SB}{E:Env}{L:List Blk}{w:World}{T:Tm}{a:Act}
abbrev Rq(a:Act)(x:Option Operand)(r:Option Int):Prop:=(x=none/\r=none)\/∃o k n,x=some o/\r=some n/\a.eval o=.int k n
theorem XJ{t e:TypeId}{v:Value}{lo hi:Option Operand}{lo' hi':Option Int}{sz:Nat}(hR:Rel w0 S0 E L w)(hd:P.underlying t=some (.slice e))(hs:cL P e=some sz)(hv:VR E .nilsl v)(hlo:Rq a lo lo')(hhi:Rq a hi hi')(h0:lo'.getD 0=0)(h1:hi'.getD 0=0):cS P w0 S0 E L .nilsl w (Instr.sliceAt t v (lo.map a.eval) (hi.map a.eval) none):=by
 simp only[VR]at hv;subst hv;have hb:=fY (P:=P) (w:=w) (b:=true) (len:=0) (cap:=0) hlo hhi amM (by simp only[Int.natCast_zero];omega) (by simp only[Int.natCast_zero];omega) (ajs _);refine .same hR (v:=.slice none 0 0) ?_ (by simp[VR]);simp only[Instr.sliceAt,Instr.slice,ajB,run_underlying hd,ajC,hb,bX hs,aj2];simp[*]
theorem U3{t e:TypeId}{v:Value}{lo hi:Option Operand}{lo' hi':Option Int}{sz n:Nat}{x:AV}(hR:Rel w0 S0 E L w)(hd:P.underlying t=some (.slice e))(hs:cL P e=some sz)(hv:VR E x v)(hlo:Rq a lo lo')(hhi:Rq a hi hi')(h0:0<=lo'.getD 0)(h1:lo'.getD 0<=hi'.getD n):
  (∀ l cap,x=.sl l n cap->hi'.getD n<=n->cS P w0 S0 E L (.sl ((l.drop ((lo'.getD 0).toNat * sz)).take (((hi'.getD n).toNat - (lo'.getD 0).toNat) * sz)) ((hi'.getD n).toNat - (lo'.getD 0).toNat) (cap.map (· - (lo'.getD 0).toNat))) w
   (Instr.sliceAt t v (lo.map a.eval) (hi.map a.eval) none)) /\
  (∀ i off cap,x=.lsl i off n cap sz->hi'.getD n<=((cap.getD n:Nat):Int)->cS P w0 S0 E L (.lsl i (off+(lo'.getD 0).toNat * sz) ((hi'.getD n).toNat - (lo'.getD 0).toNat) (cap.map (· - (lo'.getD 0).toNat)) sz) w
   (Instr.sliceAt t v (lo.map a.eval) (hi.map a.eval) none)):=by
 have runnil:∀p,n=0->hi'.getD n<=n->(Instr.sliceAt t (.slice p 0 0) (lo.map a.eval) (hi.map a.eval) none).run P w=.ok (.slice p 0 0) w:=λp hn h2=>by
  subst hn;have hb:=fY (P:=P) (w:=w) (b:=true) (len:=0) (cap:=0) hlo hhi h0 h1 h2 (ajs _);simp only[Instr.sliceAt,Instr.slice,ajB,run_underlying hd,ajC,hb,bX hs,aj2]
  grind
 have run:∀b o c,n<=c->hi'.getD n<=c->(Instr.sliceAt t (.slice (some ⟨b,o,none⟩) n c) (lo.map a.eval) (hi.map a.eval) none).run P w =
   .ok (.slice (some ⟨b,if c=(lo'.getD 0).toNat then o else o+(lo'.getD 0).toNat*sz,none⟩) ((hi'.getD n).toNat-(lo'.getD 0).toNat) (c-(lo'.getD 0).toNat)) w:=λb o c hc h2=>by
  have hb:=fY (P:=P) (w:=w) (b:=true) (len:=n) (cap:=c) hlo hhi h0 h1 h2 hc;simp only[Instr.sliceAt,Instr.slice,ajB,run_underlying hd,ajC,hb,bX hs,aj2];split<;>simp[Addr.add_mk]
 refine⟨λl cap ex h2=>?_,λi off cap ex h2=>?_⟩<;>subst ex<;>simp only[VR]at hv;obtain⟨p,c,rfl,g1,g2,g3⟩:=hv;rcases g3 with⟨rfl,rfl,rfl⟩|⟨b,o,rfl,g3⟩;have z1:(lo'.getD 0).toNat=0:=amM;have z2:(hi'.getD ((0:Nat):Int)).toNat=0:=amM;refine .same hR (runnil p rfl h2) ?_;rw[z1,z2];refine⟨p,0,rfl,ajs _,λk hk=>?_,.inl ⟨rfl,rfl,amN⟩⟩;simp_all;refine .same hR (run b o c g1 amM) ?_;refine⟨_,_,rfl,amM,λk hk=>?_,.inr ⟨b,_,rfl,?_⟩⟩;cases cap with
 |none=>simp at hk
 |some q=>simp at hk;rw[g2 q rfl];exact hk
 by_cases hq:c=(lo'.getD 0).toNat;have:(hi'.getD n).toNat-(lo'.getD 0).toNat=0:=amM;rw[this];simp[VRC];rw[if_neg hq];exact(g3.drop _).take _;obtain⟨c,rc,d,g0,rfl,g1,g2,g3,g4⟩:=hv;have hrc:hi'.getD n<=rc:=by
  cases cap with
  |none=>simp at h2;omega
  |some q=>simp at h2;rw[g3 q rfl];exact h2
 refine .same hR (run c.blk d rc g2 hrc) ?_;refine⟨c,_,_,g0,rfl,λhne=>?_,amM,λk hk=>?_,?_⟩
 grind
 cases cap with
 |none=>simp at hk
 |some q=>simp at hk;rw[g3 q rfl];exact hk
 have h5:(lo'.getD 0).toNat*sz+(rc-(lo'.getD 0).toNat)*sz=rc*sz:=by rw[<- akt];congr 1;omega
 omega
theorem WW{t e:TypeId}{v:Value}{lo:Option Operand}{hi mx:Operand}{lo':Option Int}{h m:Int}{kh km:IntKind}{sz n:Nat}{l:List AV}{cap:Option Nat}(hR:Rel w0 S0 E L w)(hd:P.underlying t=some (.slice e))(hs:cL P e=some sz)(hv:VR E (.sl l n cap) v)(hlo:Rq a lo lo')(hhi:a.eval hi=.int kh h)(hmx:a.eval mx=.int km m)(h0:0<=lo'.getD 0)(h1:lo'.getD 0<=h)(h2:h<=n)(h3:h<=m)(h4:m<=n):
  cS P w0 S0 E L (.sl ((l.drop ((lo'.getD 0).toNat*sz)).take ((h.toNat-(lo'.getD 0).toNat)*sz)) (h.toNat-(lo'.getD 0).toNat) (some (m.toNat-(lo'.getD 0).toNat))) w
   (Instr.sliceAt t v (lo.map a.eval) (some (a.eval hi)) (some (a.eval mx))):=by
 obtain⟨p,c,rfl,g1,g2,g3⟩:=hv;have hb:(Instr.sliceBounds true n c (lo.map a.eval) (some (a.eval hi)) (some (a.eval mx))).run P w=.ok ((lo'.getD 0).toNat,h.toNat,m.toNat) w:=by simp only[Instr.sliceBounds,hhi,hmx,ajB,if_true];rw[cK amM amM];simp only[ajC,ajB];rw[cK amM amM];simp only[ajC];rcases hlo with⟨rfl,rfl⟩|⟨o1,k1,n1,rfl,rfl,e1⟩;simp;simp only[aks]at h0 h1;simp only[ajQ,e1,ajB];rw[cK amM amM];simp
 rcases g3 with⟨rfl,rfl,rfl⟩|⟨b,o,rfl,g3⟩;have z1:(lo'.getD 0).toNat=0:=amM;have z2:h.toNat=0:=amM;have z3:m.toNat=0:=amM;refine .same hR (v:=.slice p 0 0) ?_ ?_;simp only[Instr.sliceAt,Instr.slice,ajB,run_underlying hd,ajC,hb,bX hs,aj2];simp[*];simp only[VR];rw[z1,z2,z3]
 grind
 refine .same hR (v:=.slice (some ⟨b,if m.toNat=(lo'.getD 0).toNat then o else o+(lo'.getD 0).toNat*sz,none⟩) (h.toNat-(lo'.getD 0).toNat) (m.toNat-(lo'.getD 0).toNat)) ?_ ?_;simp only[Instr.sliceAt,Instr.slice,ajB,run_underlying hd,ajC,hb,bX hs,aj2];split<;>simp[Addr.add_mk];refine⟨_,_,rfl,amM,amN,.inr ⟨b,_,rfl,?_⟩⟩;by_cases hq:m.toNat=(lo'.getD 0).toNat;have:h.toNat-(lo'.getD 0).toNat=0:=amM;rw[this];simp[VRC];rw[if_neg hq];exact(g3.drop _).take _
theorem aao{t e:TypeId}{v:Value}{lo:Option Operand}{hi mx:Operand}{lo':Option Int}{h m:Int}{kh km:IntKind}{sz n i off:Nat}{cap:Option Nat}(hR:Rel w0 S0 E L w)(hd:P.underlying t=some (.slice e))(hs:cL P e=some sz)(hv:VR E (.lsl i off n cap sz) v)(hlo:Rq a lo lo')(hhi:a.eval hi=.int kh h)(hmx:a.eval mx=.int km m)(h0:0<=lo'.getD 0)(h1:lo'.getD 0<=h)(h3:h<=m)(h4:m<=((cap.getD n:Nat):Int)):
  cS P w0 S0 E L (.lsl i (off+(lo'.getD 0).toNat*sz) (h.toNat-(lo'.getD 0).toNat) (some (m.toNat-(lo'.getD 0).toNat)) sz) w
   (Instr.sliceAt t v (lo.map a.eval) (some (a.eval hi)) (some (a.eval mx))):=by
 simp only[VR]at hv;obtain⟨c,rc,d,g0,rfl,g1,g2,g3,g4⟩:=hv;have hrc:m<=rc:=by
  cases cap with
  |none=>simp at h4;omega
  |some q=>simp at h4;rw[g3 q rfl];exact h4
 have hb:(Instr.sliceBounds true n rc (lo.map a.eval) (some (a.eval hi)) (some (a.eval mx))).run P w=.ok ((lo'.getD 0).toNat,h.toNat,m.toNat) w:=by simp only[Instr.sliceBounds,hhi,hmx,ajB,if_true];rw[cK amM amM];simp only[ajC,ajB];rw[cK amM amM];simp only[ajC];rcases hlo with⟨rfl,rfl⟩|⟨o1,k1,n1,rfl,rfl,e1⟩;simp;simp only[aks]at h0 h1;simp only[ajQ,e1,ajB];rw[cK amM amM];simp
 refine .same hR (v:=.slice (some ⟨c.blk,if m.toNat=(lo'.getD 0).toNat then d else d+(lo'.getD 0).toNat*sz,none⟩) (h.toNat-(lo'.getD 0).toNat) (m.toNat-(lo'.getD 0).toNat)) ?_ ?_;simp only[Instr.sliceAt,Instr.slice,ajB,run_underlying hd,ajC,hb,bX hs,aj2];split<;>simp[Addr.add_mk];simp only[VR];refine⟨c,_,_,g0,rfl,λhne=>?_,amM,amN,?_⟩
 grind
 have h5:(lo'.getD 0).toNat*sz+(m.toNat-(lo'.getD 0).toNat)*sz=m.toNat*sz:=by rw[<- akt];congr 1;omega
 have h6:m.toNat*sz<=rc*sz:=akC _ amM;omega
theorem Y3{t e:TypeId}{v:Value}{lo hi:Option Operand}{lo' hi':Option Int}{sz n:Nat}{x:AV}(hR:Rel w0 S0 E L w)(hd:P.underlying t=some (.array n e))(hs:cL P e=some sz)(hv:VR E x v)(hlo:Rq a lo lo')(hhi:Rq a hi hi')(h0:0<=lo'.getD 0)(h1:lo'.getD 0<=hi'.getD n)(h2:hi'.getD n<=n):
  (∀ l off,x=.iptr l off->cS P w0 S0 E L (.sl ((l.drop (off+(lo'.getD 0).toNat * sz)).take (((hi'.getD n).toNat - (lo'.getD 0).toNat) * sz)) ((hi'.getD n).toNat - (lo'.getD 0).toNat) (some (n - (lo'.getD 0).toNat))) w
   (Instr.sliceAt t v (lo.map a.eval) (hi.map a.eval) none)) /\
  (∀ i off l,x=.ptr i off->L[i]?=some (.cells l)->off+n * sz<=l.length->cS P w0 S0 E L (.lsl i (off+(lo'.getD 0).toNat * sz) ((hi'.getD n).toNat - (lo'.getD 0).toNat) (some (n - (lo'.getD 0).toNat)) sz) w
   (Instr.sliceAt t v (lo.map a.eval) (hi.map a.eval) none)):=by
 have run:∀b o,(Instr.sliceAt t (.pointer (some ⟨b,o,none⟩)) (lo.map a.eval) (hi.map a.eval) none).run P w =
   .ok (.slice (some ⟨b,if n=(lo'.getD 0).toNat then o else o+(lo'.getD 0).toNat*sz,none⟩) ((hi'.getD n).toNat-(lo'.getD 0).toNat) (n-(lo'.getD 0).toNat)) w:=λb o=>by
  have hb:=fY (P:=P) (w:=w) (b:=false) (len:=n) (cap:=n) hlo hhi h0 h1 h2 (ajs _);simp only[Instr.sliceAt,ajB,run_underlying hd,ajC,Instr.sureAddr,hb,bX hs,aj2];split<;>simp[Addr.add_mk]
 refine⟨λl off ex=>?_,λi off l ex hL hlt=>?_⟩<;>subst ex<;>simp only[VR]at hv;obtain⟨b,o,rfl,g3⟩:=hv;refine .same hR (run b _) ?_;refine⟨_,_,rfl,amM,amN,.inr ⟨b,_,rfl,?_⟩⟩;by_cases hq:n=(lo'.getD 0).toNat;have:(hi'.getD n).toNat-(lo'.getD 0).toNat=0:=amM;rw[this];simp[VRC];rw[if_neg hq,akD];exact(g3.drop _).take _;obtain⟨c,g0,rfl⟩:=hv;obtain⟨c',cs,ty,fr,k1,k2,k3,k4,k5,k6⟩:=hR.blk i _ hL;rw[g0]at k1;cases k1;refine .same hR (run c.blk _) ?_;refine⟨c,_,_,g0,rfl,λhne=>?_,amM,amN,?_⟩
 grind
 have h5:(lo'.getD 0).toNat*sz+(n-(lo'.getD 0).toNat)*sz=n*sz:=by rw[<- akt];congr 1;omega
 omega
theorem iN(z:Array Value)(n:Nat):(Builtin.zeroCells z n).size=n*z.size:=by simp[Builtin.zeroCells]
theorem Rel.draw(hR:Rel w0 S0 E L w)(n:Nat):Rel w0 S0 E L {w with drawn:=n}:=
 ⟨hR.mem,λi k hk=>bS.world (λ_ _=>rfl) (λ_ _ _ _=>rfl) (hR.blk i k hk),hR.fresh,hR.own,hR.inj,hR.tkfresh,hR.tkown,hR.tkloc,hR.tkinj,hR.frame,hR.size,hR.os,hR.tape,hR.output,hR.glob,hR.gsz⟩
theorem iK{t u e ty:TypeId}{sz n m c:Nat}{base:Option Addr}{x:Value}{cs:List Value}(ht:P.underlying t=some (.slice e))(hu:(∃e',P.underlying u=some (.slice e'))\/P.underlying u=some .string)(hs:cL P e=some sz)(h1:(Builtin.lenOf x).run P w=.ok n w)(h2:(Builtin.firstCells sz n x).run P w=.ok ⟨cs⟩ w)(hroom:m+n<=c):
  (Builtin.append_ #[t,u] ty #[.slice base m c,x]).run P w=match base with
   |none=>.ok (.slice base (m+n) c) w
   |some b=>((storeCells (b.add (m*sz)) cs).run P w).andThen λ_ w'=>.ok (.slice base (m+n) c) w':=by
 unfold Builtin.append_;rcases hu with⟨e',hu⟩|hu
 all_goals
  simp only[alK,akn,akv,ajB,run_underlying ht,run_underlying hu,ajC,aj2,bX hs,ajK,if_false,h1,if_pos hroom,alL,if_true,h2];cases base with
  |none=>simp
  |some b=>simp
theorem tc{t u e ty:TypeId}{sz by' n m c:Nat}{base:Option Addr}{x z:Value}{cs os:List Value}(ht:P.underlying t=some (.slice e))(hu:(∃e',P.underlying u=some (.slice e'))\/P.underlying u=some .string)(hs:cL P e=some sz)(hb:VN P e=some by')(hz:∀W,(zeroValue e).run P W=.ok z W)(hzs:z.cells.size=sz)(h1:(Builtin.lenOf x).run P w=.ok n w)(h2:(Builtin.firstCells sz n x).run P {w with drawn:=w.drawn+1}=.ok ⟨cs⟩ {w with drawn:=w.drawn+1})(h3:(Builtin.firstCells sz m (.slice base m c)).run P {w with drawn:=w.drawn+1}=.ok ⟨os⟩ {w with drawn:=w.drawn+1})(hno:c<m+n)(hbig:(m+n)*by'<=140737488355328)(hbig2:m+n<=140737488355328):
  ∃nc rest,m+n<=nc/\rest.length=(nc-(m+n))*sz/\(Builtin.append_ #[t,u] ty #[.slice base m c,x]).run P w =
   .ok (.slice (some ⟨w.heap.size,0,none⟩) (m+n) nc) {w with heap:=w.heap.push (.cells ⟨(os++cs)++rest⟩ e),drawn:=w.drawn+1}:=by
 obtain⟨nc,hnc⟩:∃nc,nc=(Question.appendCap (m+n) c e).cut (w.tape w.drawn (.appendCap (m+n) c e)):=⟨_,rfl⟩;have hge:m+n<=nc:=by rw[hnc];simp[Question.cut]
 refine⟨nc,(Builtin.zeroCells z.cells (nc-(m+n))).toList,hge,by simp[iN,hzs],?_⟩;obtain⟨i,hi,hib⟩:∃i,P.info? e=some i/\i.bytes=by':=by unfold VN at hb;simpa using hb
 have hty:∀W,(typeInfo e).run P W=.ok i W:=λW=>by simp[typeInfo,hi]
 have hfit:=growslice_fits (need:=m+n) (old:=c) (bytes:=by') hno hbig;have hmax:IntKind.i64.max=9223372036854775807:=by decide
 have n1:¬(((m+n:Nat):Int)>IntKind.i64.max/\(False\/i.bytes=0)):=by rw[hmax];omega
 have n2:¬(Builtin.nextslicecap (m+n) c*i.bytes>2^48):=by rw[hib];omega
 unfold Builtin.append_;rcases hu with⟨e',hu⟩|hu
 all_goals
  simp only[alK,akn,akv,ajB,run_underlying ht,run_underlying hu,ajC,aj2,bX hs,ajK,if_false,h1,if_neg (show ¬(m+n<=c)by omega),hty,alL,if_true];simp only[if_neg n1,if_neg n2,hty,aj2,ajC,ajB,run_choose,Question.forced,ajK,if_false,<- hnc,run_askRoom,h3,h2,hz,newRow,run_newObj];have harr:((⟨os⟩:Array Value)++(⟨cs⟩:Array Value)++Builtin.zeroCells z.cells (nc-(m+n)))=⟨(os++cs)++(Builtin.zeroCells z.cells (nc-(m+n))).toList⟩:=by simp
  rw[harr]
theorem aeA{own:Nat}{t u e ty:TypeId}{sz by':Nat}{z:List AV}{x y av:AV}{p v:Value}{c:Prop}{L':List Blk}(hR:Rel w0 S0 E L w)(ht:P.underlying t=some (.slice e))(hu:(∃e',P.underlying u=some (.slice e'))\/P.underlying u=some .string)(hs:cL P e=some sz)(hb:VN P e=some by')(hz:zOf P e=some z)(hzl:z.length=sz)(hx:VR E x p)(hy:VR E y v)(h:app own sz by' L x y=some (c,av,L'))(hc:c):
  cS P w0 S0 E L' av w (Builtin.append_ #[t,u] ty #[p,v]):=by
 have hR1:Rel w0 S0 E L {w with drawn:=w.drawn+1}:=hR.draw _;obtain⟨zv,hz',hzr,_⟩:=OJ (E:=E) hz;have hzs:zv.cells.size=sz:=by have:=hzr.length;simpa[hzl]using this
 unfold app at h;split at h;cases h;rename_i c1 new n hel;have fresh:∀(olds:List AV) (os cs:List Value) (m nc:Nat) (rest:List Value),VRL E olds os->VRL E new cs->olds.length=m*sz->new.length=n*sz->m+n<=nc->rest.length=(nc-(m+n))*sz->∀(L0:List Blk),Rel w0 S0 E L0 {w with drawn:=w.drawn+1} ->
   (∃E',E.le E'/\VR E' (.lsl L0.length 0 (m+n) none sz) (.slice (some ⟨w.heap.size,0,none⟩) (m+n) nc)/\Rel w0 S0 E' (L0++[.cells (olds++new)]) {w with heap:=w.heap.push (.cells ⟨(os++cs)++rest⟩ e),drawn:=w.drawn+1}):=by
  intro olds os cs m nc rest ho hn hol hnl hge hr L0 hL0;have hon:=ho.append hn
  .obtain⟨E',r1,r2,r3⟩:=pY hL0 hon rest e (0,0) amN;refine⟨E',r1,?_,r3⟩;simp only[VR];refine⟨_,nc,0,r2,rfl,amN,hge,amN,?_⟩;have h1:=ho.length;have h2:=hn.length;have:(m+n)*sz+(nc-(m+n))*sz=nc*sz:=by rw[<- akt];congr 1;omega
   grind
 have grown:∀(olds:List AV) (os cs:List Value) (m nc:Nat) (rest:List Value),VRL E olds os->VRL E new cs->olds.length=m*sz->new.length=n*sz->m+n<=nc->rest.length=(nc-(m+n))*sz ->
   ∃E',E.le E'/\Rel w0 S0 E' L {w with heap:=w.heap.push (.cells ⟨(os++cs)++rest⟩ e),drawn:=w.drawn+1}/\VRC E' (olds++AV.frzL new) w.heap.size 0/\E'.tok=E.tok /\
    ∀i,(L++[Blk.dead])[i]?≠none->acV w0 S0 E' L {w with heap:=w.heap.push (.cells ⟨(os++cs)++rest⟩ e),drawn:=w.drawn+1} i (m+n) sz (some ⟨w.heap.size,0,nc*sz⟩):=by
  intro olds os cs m nc rest ho hn hol hnl hge hr;have hn':=VRL.frz _ _ hn;have hon:=ho.append hn';obtain⟨E',r1,r2,r3,r4,r5,r6⟩:=hR1.imm' (os++cs) e (olds++AV.frzL new) hon rest (0,0);have h1:=ho.length;have h2:=hn.length;have h4:(m+n)*sz+(nc-(m+n))*sz=nc*sz:=(by rw[<- akt];congr 1;omega);have h3:(m+n)*sz=m*sz+n*sz:=akt _ _ _;refine⟨E',r1,r2,r3,r5,λi _ k hk=>?_⟩;cases hk;refine⟨⟨_,e,(0,0),by simp;rfl,?_,amN⟩,λo ho'=>r6 o (by simp only[ajA];omega),.inr hR.size,λj k' c hj hl hcj=>?_,λj n' sz' t' k' _ hj ht' hk'=>?_⟩
  .simp only[List.size_toArray,ajA];omega
  .have:=hR.loc_lt hj hl (by rw[<- r4];exact hcj);simp only;omega
  .have:=hR.tok_lt hj (by rw[<- r5];exact ht') hk';simp only;omega
 have keep:∀{i:Nat}{k:Blk},L[i]?=some k->(L++[Blk.dead])[i]?≠none:=λ{i k} hi=>by have:=(ajr.1 hi).1;simp;omega
 have onew:(AV.frzL new).length=new.length:=AV.frzL_length _;split at h;rename_i l m k;have hx0:=hx;simp only[VR]at hx0;obtain⟨pb,c',rfl,g1,g2,g3⟩:=hx0;have:=g2 k rfl;subst this;by_cases hown2:own=2;subst hown2;simp only[reduceIte,Nat.reduceEqDiff]at h;split at h;rename_i hn0;subst hn0;simp only[ajt,ajH]at h;obtain⟨rfl,rfl,rfl⟩:=h;obtain⟨h1,h2,cs,h3,h4⟩:=bM (P:=P) hR hy hel hc.1;have:cs=[]:=by have:=h3.length;simp at h2;simpa[h2]using this
 subst this;refine .same hR (v:=.slice pb m c') ?_ hx;rw[iK (ty:=ty) ht hu hs h1 h4 amM];cases pb<;>simp[storeCells];rename_i hn0;simp only[ajt,ajH,VT]at h;obtain⟨rfl,rfl,rfl⟩:=h;obtain⟨k1,k2,k3,k4,k5⟩:=hc;subst k2;obtain⟨h1,h2,_,_,_⟩:=bM (P:=P) hR hy hel k1;obtain⟨_,_,cs,h3,h4⟩:=bM (P:=P) hR1 hy hel k1;obtain⟨_,_,os,q3,q4⟩:=bM (P:=P) (sz:=sz) (c:=l.length=m*sz) (l:=l) (n:=m) hR1 hx rfl k3;obtain⟨nc,rest,j1,j2,j3⟩:=tc (P:=P) (w:=w) (ty:=ty) (m:=m) (c:=m) (base:=pb) (os:=os) ht hu hs hb hz' hzs h1 h4 q4 amM k4 k5;obtain⟨E1,a1,a2,a3⟩:=fresh l os cs m nc rest q3 h3 k3 h2 j1 j2 L hR1;exact⟨E1,_,_,j3,a1,a2,a3⟩;simp only[if_neg hown2]at h;have hc1:c1/\m=c'/\l.length=m*sz/\(m+n)*by'<=140737488355328/\m+n<=140737488355328:=by split at h<;>simp only[ajt,ajH]at h<;>obtain⟨rfl,_⟩:=h<;>exact hc
 obtain⟨k1,k2,k3,k4,k5⟩:=hc1;subst k2;obtain⟨h1,h2,cs0,h30,h40⟩:=bM (P:=P) hR hy hel k1;have hmul:(m+n)*sz=m*sz+n*sz:=akt _ _ _;rcases akM n with hn0|hn0;subst hn0;have hnew:new=[]:=by simpa using h2
 subst hnew;have:cs0=[]:=by have:=h30.length;simpa using this
 subst this;have hrun:(Builtin.append_ #[t,u] ty #[.slice pb m m,v]).run P w=.ok (.slice pb m m) w:=by rw[iK (ty:=ty) ht hu hs h1 h40 amM];cases pb<;>simp[storeCells]
 split at h<;>simp only[ajt,ajH]at h<;>obtain⟨rfl,rfl,rfl⟩:=h;obtain⟨r1,r2⟩:=hR.addtok (n:=m+0) (sz:=sz) (lc:=none) R4;refine⟨_,_,_,hrun,r1,?_,r2⟩;simp only[VR,AV.frzL,aj6,akz];refine⟨pb,m,rfl,ajs _,k3,g3.imp id λ⟨b,o,q1,q2⟩=>⟨b,o,q1,VRC.mono r1 _ _ _ q2⟩,⟨m+0,sz,none⟩,amN,amN,λ_=>⟨rfl,λ_=>rfl,amN⟩⟩;refine .same hR hrun ?_;simp only[VR,AV.frzL,aj6,akz];exact⟨pb,m,rfl,ajs _,amN,g3⟩;obtain⟨_,_,cs,h3,h4⟩:=bM (P:=P) hR1 hy hel k1;obtain⟨_,_,os,q3,q4⟩:=bM (P:=P) (sz:=sz) (c:=l.length=m*sz) (l:=l) (n:=m) hR1 hx rfl k3;obtain⟨nc,rest,j1,j2,j3⟩:=tc (P:=P) (w:=w) (ty:=ty) (m:=m) (c:=m) (base:=pb) (os:=os) ht hu hs hb hz' hzs h1 h4 q4 amM k4 k5;obtain⟨E2,b1,b2,b3,b5,b4⟩:=grown l os cs m nc rest q3 h3 k3 h2 j1 j2;split at h<;>simp only[ajt,ajH]at h<;>obtain⟨rfl,rfl,rfl⟩:=h;obtain⟨r1,r2⟩:=b2.addtok (n:=m+n) (sz:=sz) (b4 L.length amN);refine⟨_,_,_,j3,b1.trans r1,?_,r2⟩;simp only[VR];exact⟨_,nc,rfl,j1,by simp only[ajA,onew];omega,.inr ⟨_,0,rfl,VRC.mono r1 _ _ _ b3⟩,⟨m+n,sz,some ⟨w.heap.size,0,nc*sz⟩⟩,amN,amN,λ_=>⟨rfl,amN,λk hk=>by cases hk;exact⟨rfl,ajs _⟩⟩⟩;refine⟨E2,_,_,j3,b1,?_,b2⟩;simp only[VR];exact⟨_,nc,rfl,j1,amN,.inr ⟨_,0,rfl,b3⟩⟩;rename_i l m i s;split at h;rename_i m' s' hL;simp only[ajt,ajH]at h;obtain⟨rfl,rfl,rfl⟩:=h;obtain⟨k1,kone,rfl,rfl,rfl,k4,k5⟩:=hc;obtain⟨hsl,k3⟩:=hx.gsl_sl;have hx0:=hx;simp only[VR]at hx0;obtain⟨pb,rc,rfl,g1,_,g3,tk,g4,g5,g6⟩:=hx0;obtain⟨tk',e1,e2,e3,e4⟩:=hR.blk i _ hL;rw[g4]at e1;cases e1;obtain⟨g7,g8,g9⟩:=g6 e2.symm;obtain⟨h1,h2,cs0,h30,h40⟩:=bM (P:=P) hR hy hel k1;have hmul:(m'+n)*s'=m'*s'+n*s':=akt _ _ _;rcases akM n with hn0|hn0;subst hn0;have hnew:new=[]:=by simpa using h2
 subst hnew;have:cs0=[]:=by have:=h30.length;simpa using this
 subst this;have hrun:(Builtin.append_ #[t,u] ty #[.slice pb m' rc,v]).run P w=.ok (.slice pb m' rc) w:=by rw[iK (ty:=ty) ht hu hs h1 h40 amM];cases pb<;>simp[storeCells]
 refine .same ?_ hrun ?_;have:L.set i (.spare (m'+0) s')=L:=by apply alv;intro j;rw[aj1];split;rename_i e;subst e;rw[hL];have:=(ajr.1 hL).1;simp[this];rfl
 rw[this];exact hR;simpa[AV.frzL]using hx;by_cases hroom:m'+n<=rc;have hloc:∃k,tk.loc=some k:=by rcases hq:tk.loc with _|k;have:=g8 hq;omega;exact⟨k,rfl⟩
 obtain⟨k,hk⟩:=hloc;obtain⟨rfl,hkc⟩:=g9 k hk;obtain⟨cs1,ty1,fr1,b1,b2,b3⟩:=e4 k hk;have hcs:=h30.length;have hmr:(m'+n)*s'<=rc*s':=akC _ hroom;obtain⟨w',cs',r1,r2,r3,r4,r5,r6,r7,r8,r9⟩:=ij (P:=P) (b:=k.blk) (ty:=ty1) (fr:=fr1) cs0 w cs1 (0+m'*s') 0 b1 (λv hv=>by obtain⟨j,hj⟩:=alm.1 hv;have hj':j<new.length:=(by have:=(ajr.1 hj).1;omega);obtain⟨y,h7,h8⟩:=h30.get (ajF hj');rw[hj]at h7;cases h7;exact h8.one (ajE.1 kone _ (aky hj'))) amM (λo h7 h8=>b3 o amM amM)
 have hrun:(Builtin.append_ #[t,u] ty #[.slice (some ⟨k.blk,0,none⟩) m' rc,v]).run P w=.ok (.slice (some ⟨k.blk,0,none⟩) (m'+n) rc) w':=by rw[iK (ty:=ty) ht hu hs h1 h40 hroom];simp only[Addr.add_mk,r1,ajC]
 obtain⟨E',q1,q2,q3,q4⟩:=hR.tokwrite (w':=w') hL g4 hk (n:=m'+n) amM b1 r2 r3 r4 r5 r6 r7 r8 (λo ho=>by rw[r9,if_neg amM]);refine⟨E',_,_,hrun,q1,?_,q2⟩;simp only[VR];refine⟨_,rc,rfl,hroom,by simp only[ajA,onew];omega,.inr ⟨k.blk,0,rfl,VRC.of_get λj a ha=>?_⟩,_,q3,ajs _,λ_=>⟨rfl,amN,λk' hk'=>by cases hk';exact⟨rfl,hkc⟩⟩⟩;rw[akT]at ha;split at ha;rename_i hj;rcases g3 with⟨_,_,e⟩|⟨b,o,e,g3⟩;subst e;simp at hj;cases e;obtain⟨y,f1,f2⟩:=(VRC.mono q1 _ _ _ g3).get ha;exact⟨y,f1,f2⟩;rename_i hj;obtain⟨y,f1,f2⟩:=(VRL.frz _ _ h30).get ha;have hlt:=(ajr.1 ha).1;refine⟨y,?_,VR.mono q1 _ _ f2⟩;rw[q4 _ amM amM,r9,if_pos amM,<- f1];congr 1;omega;obtain⟨_,_,cs,h3,h4⟩:=bM (P:=P) hR1 hy hel k1;obtain⟨_,_,os,q3,q4⟩:=bM (P:=P) (sz:=s') (c:=l.length=m'*s') (l:=l) (n:=m') hR1 hsl rfl k3;obtain⟨nc,rest,j1,j2,j3⟩:=tc (P:=P) (w:=w) (ty:=ty) (m:=m') (c:=rc) (base:=pb) (os:=os) ht hu hs hb hz' hzs h1 h4 q4 amM k4 k5;obtain⟨E2,b1,b2,b3,b5,b4⟩:=grown l os cs m' nc rest q3 h3 k3 h2 j1 j2;obtain⟨r1,r2⟩:=b2.settok (n:=m'+n) (sz:=s') ⟨_,_,hL⟩ (λt2 ht2=>by rw[b5,g4]at ht2;cases ht2;omega) (b4 i (keep hL))
 refine⟨_,_,_,j3,b1.trans r1,?_,r2⟩;simp only[VR];exact⟨_,nc,rfl,j1,by simp only[ajA,onew];omega,.inr ⟨_,0,rfl,VRC.mono r1 _ _ _ b3⟩,⟨m'+n,s',some ⟨w.heap.size,0,nc*s'⟩⟩,amN,amN,λ_=>⟨rfl,amN,λk hk=>by cases hk;exact⟨rfl,ajs _⟩⟩⟩;cases h;rename_i i off m cap s;split at h;rename_i l hL;split at h;rename_i hsz;subst hsz;by_cases hown4:own=4;rw[if_pos hown4]at h;rcases cap with _|rc0;cases h;simp only[ajt,ajH]at h;obtain⟨rfl,rfl,rfl⟩:=h;obtain⟨k1,kone,k2,k3⟩:=hc;have hx0:=hx;simp only[VR]at hx0;obtain⟨cl,rc,d,g0,rfl,g1,g2,g3,g4⟩:=hx0;have hrc0:=g3 rc0 rfl;subst hrc0;obtain⟨h1,h2,cs,h3,h4⟩:=bM (P:=P) hR hy hel k1;have hmul:(m+n)*s=m*s+n*s:=akt _ _ _;have hcs:=h3.length;obtain⟨w',r1,r2⟩:∃w',(storeCells ((⟨cl.blk,d,none⟩:Addr).add (m*s)) cs).run P w=.ok () w'/\Rel w0 S0 E (L.set i (.cells (dw l (off+m*s) new))) w':=by
  by_cases hrc:rc=0;have hn0:n=0:=amM;subst hn0;have hnew:new=[]:=aj4.1 (by rw[h2];simp);subst hnew;have hcs0:cs=[]:=(by simpa using hcs);subst hcs0;refine⟨w,by simp[storeCells],?_⟩;have e1:dw l (off+m*s) []=l:=(by simp[dw]);rw[e1];have e2:L.set i (.cells l)=L:=by apply alv;intro j;rw[aj1];split;rename_i e;subst e;rw[hL];have:=(ajr.1 hL).1;simp[this];rfl
  rw[e2];exact hR;have hd:=g1 hrc;subst hd;rw[Addr.add_mk,akD];exact OU (P:=P) (off:=off+m*s) hR hL g0 h3 (λx hx=>ajE.1 kone x hx) (by rw[h2];omega)
 have hrun:(Builtin.append_ #[t,u] ty #[.slice (some ⟨cl.blk,d,none⟩) m rc,v]).run P w=.ok (.slice (some ⟨cl.blk,d,none⟩) (m+n) rc) w':=by rw[iK (ty:=ty) ht hu hs h1 h4 k3];simp only[r1,ajC]
 refine⟨E,_,w',hrun,.refl E,?_,r2⟩;simp only[VR];exact⟨cl,rc,d,g0,rfl,g1,k3,g3,g4⟩;rw[if_neg hown4]at h;simp only[ajt,ajH,VT]at h;obtain⟨rfl,rfl,rfl⟩:=h;obtain⟨k1,kone,k2,k3,k4⟩:=hc;have hx0:=hx;simp only[VR]at hx0;obtain⟨cl,rc,d,g0,rfl,g1,g2,g3,g4⟩:=hx0;obtain⟨h1,h2,cs,h3,h4⟩:=bM (P:=P) hR hy hel k1;by_cases hroom:m+n<=rc;have hold:((l.drop off).take (m*s)).length=m*s:=by simp;omega
 obtain⟨cl',cs0,ty0,fr,b1,b2,b3,b4,b5,b6⟩:=hR.blk i _ hL;rw[g0]at b1;cases b1;have hown:=hR.own i _ cl hL rfl g0;have hcs:=h3.length;have hmul:(m+n)*s=m*s+n*s:=akt _ _ _;have hmr:(m+n)*s<=rc*s:=akC _ hroom;have hd:(some (⟨cl.blk,d,none⟩:Addr)).map (·.add (m*s))=some ⟨cl.blk,d+m*s,none⟩:=by simp[Addr.add_mk]
 obtain⟨w',cs',r1,r2,r3,r4,r5,r6,r7,r8,r9⟩:∃w' cs',(storeCells ((⟨cl.blk,d,none⟩:Addr).add (m*s)) cs).run P w=.ok () w'/\w'.heap.size=w.heap.size/\(∀k,k≠cl.blk->w'.heap[k]?=w.heap[k]?)/\w'.os=w.os/\w'.tape=w.tape/\w'.output=w.output /\
   w'.heap[cl.blk]?=some (.cells cs' ty0 fr)/\cs'.size=cs0.size/\∀k,cs'[k]?=if cl.off+off+m*s<=k/\k<cl.off+off+m*s+cs.length then cs[k-(cl.off+off+m*s)]? else cs0[k]?:=by
  by_cases hrc:rc=0
  .have hcs0:cs=[]:=by
    have h0 : n * s = 0 := by have : n = 0 := by omega
                              rw[this];simp
    rw[h2,h0]at hcs;simpa using hcs
   subst hcs0;exact⟨w,cs0,by simp[storeCells],rfl,λ_ _=>rfl,rfl,rfl,rfl,b2,rfl,λk=>by rw[if_neg amN]⟩
  .have hd:=g1 hrc;subst hd;rw[Addr.add_mk];have:=ij (P:=P) (b:=cl.blk) (ty:=ty0) (fr:=fr) cs w cs0 (cl.off+off+m*s) 0 b2 (λv hv=>by obtain⟨j,hj⟩:=alm.1 hv;have hj':j<new.length:=(by have:=(ajr.1 hj).1;omega);obtain⟨y,h7,h8⟩:=h3.get (ajF hj');rw[hj]at h7;cases h7;exact h8.one (ajE.1 kone _ (aky hj'))) amM (λk h7 h8=>b6 k amM amM)
   simpa using this
 have hrun:(Builtin.append_ #[t,u] ty #[.slice (some ⟨cl.blk,d,none⟩) m rc,v]).run P w=.ok (.slice (some ⟨cl.blk,d,none⟩) (m+n) rc) w':=by rw[iK (ty:=ty) ht hu hs h1 h4 hroom];simp only[r1,ajC]
 have hk:=hR.turn (w':=w') (k':=.dead) hL rfl g0 r2 r3 r4 r5 r6 (by simp[bS]) amN;have hk2:=hk.add (.cells ((l.drop off).take (m*s)++new)) ⟨cl.blk,cl.off+off,cl.size⟩ hown.1 hown.2 (λj k' d' hj hl' hd'=>by
  rw[aj1]at hj;split at hj;split at hj;cases hj;simp[Blk.live]at hl';cases hj;rename_i hne;intro e;exact hne (hR.inj _ _ _ _ _ _ hL rfl hj hl' g0 hd' e.symm)) rfl (λj n2 s2 t2 d hj ht2 hd2=>hR.tkloc j n2 s2 t2 d i _ cl (fp amN hj) ht2 hd2 hL rfl g0) (by
  refine⟨⟨cl.blk,cl.off+off,cl.size⟩,cs',ty0,fr,amN,r7,by simpa using r8.trans b3,by simp only[ajA,hold];omega,λj a' ha=>?_,λo h5 h6=>b6 o (by simp at h5;omega) h6⟩;have hmono:∀x y,VR E x y->VR {E with loc:=λi'=>if i'=(L.set i .dead).length then some ⟨cl.blk,cl.off+off,cl.size⟩else E.loc i'} x y:=λx y hxy=>VR.mono (Env.le_loc _ (hk.fresh _ (ajs _))) _ _ hxy
  show ∃v,cs'[cl.off+off+j]?=some v/\_;rw[r9];rw[akT]at ha;rw[hold]at ha;by_cases hj:j<m*s;rw[if_pos hj,akj hj,aki]at ha;rw[if_neg amM];obtain⟨x,e1,e2⟩:=b5 _ _ ha;exact⟨x,by rw[<- e1];congr 1;omega,hmono _ _ e2⟩;rw[if_neg hj]at ha;have hlt:=(ajr.1 ha).1;rw[if_pos amM];obtain⟨x,e1,e2⟩:=h3.get ha;exact⟨x,by rw[<- e1];congr 1;omega,hmono _ _ e2⟩)
 refine⟨_,_,w',hrun,hk2.1,?_,by simpa using hk2.2⟩;simp only[VR];refine⟨⟨cl.blk,cl.off+off,cl.size⟩,rc,d,amN,rfl,λhne=>by simpa using g1 hne,hroom,amN,?_⟩;simpa using g4;obtain⟨_,_,cs,h3,h4⟩:=bM (P:=P) hR1 hy hel k1;obtain⟨_,q2,os,q3,q4⟩:=bM (P:=P) (sz:=s) (c:=off+m*s<=l.length) (l:=(l.drop off).take (m*s)) (n:=m) hR1 hx (by simp only[elems,hL]) k2;obtain⟨nc,rest,j1,j2,j3⟩:=tc (P:=P) (w:=w) (ty:=ty) (m:=m) (c:=rc) (base:=some ⟨cl.blk,d,none⟩) (os:=os) ht hu hs hb hz' hzs h1 h4 q4 amM k3 k4;have hk:Rel w0 S0 E (L.set i .dead) {w with drawn:=w.drawn+1}:=hR1.kill amN λj k hk=>by rw[aj1]at hk;split at hk;split at hk;cases hk;exact .inl rfl;cases hk;exact .inr hk
 obtain⟨E1,a1,a2,a3⟩:=fresh _ os cs m nc rest q3 h3 q2 h2 j1 j2 (L.set i .dead) hk;exact⟨E1,_,_,j3,a1,by simpa using a2,a3⟩;cases h;cases h;cases h
theorem acD{t u e ty:TypeId}{sz by' i off m cp:Nat}{z l:List AV}{p v:Value}{j q:IntKind}{k:Int}(hR:Rel w0 S0 E L w)(ht:P.underlying t=some (.slice e))(hu:P.underlying u=some (.int j))(hs:cL P e=some sz)(hb:VN P e=some by')(hz:zOf P e=some z)(hzl:z.length=sz)(hx:VR E (.lsl i off m (some cp) sz) p)(hy:VR E (.int q k) v)(hL:L[i]?=some (.cells l))(hc:0<=k/\k<=1099511627776/\cp<m+k.toNat/\off+m*sz<=l.length/\(m+k.toNat)*by'<=140737488355328/\m+k.toNat<=140737488355328):
  cS P w0 S0 E (L++[.cells ((l.drop off).take (m*sz)++fq z k.toNat)]) (.lsl L.length 0 (m+k.toNat) none sz) w (Builtin.append_ #[t,u] ty #[p,v]):=by
 obtain⟨c1,c2,c3,c4,c5,c6⟩:=hc;have hR1:Rel w0 S0 E L {w with drawn:=w.drawn+1}:=hR.draw _;obtain⟨zv,hz',hzr,_⟩:=OJ (E:=E) hz;have hzs:zv.cells.size=sz:=by have:=hzr.length;simpa[hzl]using this
 simp only[VR]at hy;subst hy;have hx0:=hx;simp only[VR]at hx0;obtain⟨cl,rc,d,g0,rfl,g1,g2,g3,g4⟩:=hx0;have:=g3 cp rfl;subst this;obtain⟨_,q2,os,q3,q4⟩:=bM (P:=P) (sz:=sz) (c:=off+m*sz<=l.length) (l:=(l.drop off).take (m*sz)) (n:=m) hR1 hx (by simp only[elems,hL]) c4;obtain⟨n,hn⟩:∃n,n=k.toNat:=⟨_,rfl⟩;rw[<- hn]at c3 c5 c6⊢;obtain⟨nc,hnc⟩:∃nc,nc=(Question.appendCap (m+n) rc e).cut (w.tape w.drawn (.appendCap (m+n) rc e)):=⟨_,rfl⟩;have hge:m+n<=nc:=by rw[hnc];simp[Question.cut]
 obtain⟨inf,hi,hib⟩:∃i,P.info? e=some i/\i.bytes=by':=by unfold VN at hb;simpa using hb
 have hty:∀W,(typeInfo e).run P W=.ok inf W:=λW=>by simp[typeInfo,hi]
 have hfit:=growslice_fits (need:=m+n) (old:=rc) (bytes:=by') c3 c5;have hmax:IntKind.i64.max=9223372036854775807:=by decide
 have hw:IntKind.i64.wrap k=k:=by simp only[IntKind.wrap,IntKind.bits,IntKind.signed];simp;omega
 have hkn:(n:Int)=k:=amM;have hbig:k*(inf.bytes:Int)<=2^48:=by grind
 have n0:¬k<0:=amM;have n3:¬k*(inf.bytes:Int)>2^48:=amM;have n1:¬(((m+n:Nat):Int)>IntKind.i64.max/\True):=by rw[hmax];omega
 have n2:¬(Builtin.nextslicecap (m+n) rc*inf.bytes>2^48):=by rw[hib];omega
 have hzero:∀W,(if n*sz=0 then(pure #[]:Sem (Array Value))else do pure (Builtin.zeroCells (<- zeroValue e).cells n)).run P W=.ok (Builtin.zeroCells zv.cells n) W:=λW=>by
  by_cases h0:n*sz=0;rw[if_pos h0];have:Builtin.zeroCells zv.cells n=#[]:=by apply Array.eq_empty_of_size_eq_zero;rw[iN,hzs,h0]
  simp_all;simp_all
 have hrun:(Builtin.append_ #[t,u] ty #[.slice (some ⟨cl.blk,d,none⟩) m rc,.int q k]).run P w =
   .ok (.slice (some ⟨w.heap.size,0,none⟩) (m+n) nc) {w with heap:=w.heap.push (.cells ⟨(os++(Builtin.zeroCells zv.cells n).toList)++(Builtin.zeroCells zv.cells (nc-(m+n))).toList⟩ e),drawn:=w.drawn+1}:=by
  unfold Builtin.append_;simp only[alK,akn,akv,ajB,run_underlying ht,run_underlying hu,ajC,aj2,bX hs,if_true,asInt,asIntOf,hw,if_neg n0,hty,if_neg n3,<- hn];simp only[if_neg (show ¬(m+n<=rc)by omega),alc,ajK,if_false,true_or];simp only[if_neg n1,aj2,ajB,hty,ajC,if_neg n2,run_choose,Question.forced,ajK,if_false,<- hnc,run_askRoom,q4,hzero,hz',newRow,run_newObj];have harr:((⟨os⟩:Array Value)++Builtin.zeroCells zv.cells n++Builtin.zeroCells zv.cells (nc-(m+n)))=⟨(os++(Builtin.zeroCells zv.cells n).toList)++(Builtin.zeroCells zv.cells (nc-(m+n))).toList⟩:=by simp
  grind
 have hrep:VRL E (fq z n) (Builtin.zeroCells zv.cells n).toList:=by have:=O0 hzr n;simpa[Builtin.zeroCells]using this
 obtain⟨E',r1,r2,r3⟩:=pY hR1 (q3.append hrep) (Builtin.zeroCells zv.cells (nc-(m+n))).toList e (0,0) amN;refine⟨E',_,_,hrun,r1,?_,r3⟩;simp only[VR];refine⟨_,nc,0,r2,rfl,amN,hge,amN,?_⟩;have h1:=q3.length;have h2:((Builtin.zeroCells zv.cells n).toList).length=n*sz:=by simp[iN,hzs]
 have h5:((Builtin.zeroCells zv.cells (nc-(m+n))).toList).length=(nc-(m+n))*sz:=by simp[iN,hzs]
 have:(m+n)*sz+(nc-(m+n))*sz=nc*sz:=by rw[<- akt];congr 1;omega
 have h3:(m+n)*sz=m*sz+n*sz:=akt _ _ _;simp only[ajA,h2,h5];omega
end
section
variable {P:Program}{w0:World}{S0:SB}{E:Env}{L:List Blk}{w:World}{T:Tm}{a:Act}
def ez(P:Program)(w0:World)(S0:SB)(E:Env)(L':List Blk)(av:AV)(w:World)(s:Sem Next):Prop :=
 ∃E' v w',(s.run P w=.ok (.value v) w'\/(s.run P w=.ok .skip w'/\v=undef))/\E.le E'/\VR E' av v/\Rel w0 S0 E' L' w'
theorem cS.done{L':List Blk}{av:AV}{s:Sem Value}(h:cS P w0 S0 E L' av w s):ez P w0 S0 E L' av w (do pure (.value (<- s))):=by obtain⟨E',v,w',h1,h2⟩:=h;exact⟨E',v,w',.inl (by simp[h1]),h2⟩
theorem qc:∀{xs:List Operand}{ys:List Opd}{l:List AV},lV xs=some ys->gR T ys=some l->TR E T a->VRL E l (xs.map a.eval)
 |[],ys,l,h,hv,_=>by simp[lV]at h;subst h;simp[gR]at hv;subst hv;rfl
 | x::xs,ys,l,h,hv,hT=>by
   simp only[lV,amj]at h;rcases h1:bJ x with _|y
   .simp_all
   .rcases h2:xs.mapM bJ with _|ys'
    .simp_all
    .simp[h1,h2]at h;subst h;simp only[gR]at hv;split at hv<;>simp at hv;rename_i b m h3 h4;subst hv;exact⟨_,_,rfl,ao h1 h3 hT,qc (by simpa[lV]using h2) h4 hT⟩
theorem S8{sz:Nat}{x:AV}{v:Value}{c:Prop}{l:List AV}{n:Nat}(k:Nat)(hk:k<=n)(hR:Rel w0 S0 E L w)(hv:VR E x v)(h:elems L sz x=some (c,l,n))(hc:c):
  ∃cs,VRL E (l.take (k*sz)) cs/\cs.length=k*sz/\(Builtin.firstCells sz k v).run P w=.ok ⟨cs⟩ w:=by
 have hks:k*sz<=n*sz:=akC _ hk;unfold elems at h;split at h;simp only[ajt,ajH]at h;obtain⟨rfl,rfl,rfl⟩:=h;simp only[VR]at hv;subst hv;have:k=0:=amM;subst this;exact⟨[],by simp[VRL],amN,by simp[Builtin.firstCells]⟩;rename_i l m cap;simp only[ajt,ajH]at h;obtain⟨rfl,rfl,rfl⟩:=h;exact(OW (P:=P) hR hv hc hk).2;rename_i l m i s;simp only[ajt,ajH]at h;obtain⟨rfl,rfl,rfl⟩:=h;subst hc;exact(OW (P:=P) hR hv.gsl_sl.1 hv.gsl_sl.2 hk).2;rename_i i off m cap s;split at h;rename_i l' hL;simp only[ajt,ajH]at h;obtain⟨rfl,rfl,rfl⟩:=h;simp only[VR]at hv;obtain⟨q,rc,d,h1,rfl,h2,h3,h4,h5⟩:=hv;obtain⟨k',cs0,ty,fr,g1,g2,g3,g4,g5,g6⟩:=hR.blk i _ hL;rw[h1]at g1;cases g1;have hlen:(((l'.drop off).take (m*sz)).take (k*sz)).length=k*sz:=by simp;omega
 rcases akM k with hm|hm;subst hm;exact⟨[],by simp[VRL],amN,by simp[Builtin.firstCells,loadCells,loadCellsFrom]⟩;have hd:=h2 amM;subst hd;obtain⟨cs,h6,h7⟩:=gQ (P:=P) (w:=w) (b:=q.blk) (o:=q.off+off) (l:=((l'.drop off).take (m*sz)).take (k*sz)) λj a ha=>by have hj:j<k*sz:=(by have:=(ajr.1 ha).1;omega);rw[akj hj,akj amM,aki]at ha;obtain⟨x,h8,h9⟩:=g5 _ _ ha;refine⟨x,?_,h9⟩;rw[<- akD]at h8;simp[World.cell?,g2,h8]
 exact⟨cs,h6,by rw[h6.length,hlen],by rw[hlen]at h7;simpa[Builtin.firstCells]using h7⟩;rename_i l' hL;simp only[ajt,ajH]at h;obtain⟨rfl,rfl,rfl⟩:=h;simp only[VR]at hv;obtain⟨q,rc,d,h1,rfl,h2,h3,h4,h5⟩:=hv;obtain⟨k',cs0,ty,fr,g1,g2,g3,g4,g5,g6⟩:=hR.blk i _ hL;rw[h1]at g1;cases g1;have hlen:(((l'.drop off).take (m*sz)).take (k*sz)).length=k*sz:=by simp;omega
 rcases akM k with hm|hm;subst hm;exact⟨[],by simp[VRL],amN,by simp[Builtin.firstCells,loadCells,loadCellsFrom]⟩;have hd:=h2 amM;subst hd;obtain⟨cs,h6,h7⟩:=gQ (P:=P) (w:=w) (b:=q.blk) (o:=q.off+off) (l:=((l'.drop off).take (m*sz)).take (k*sz)) λj a ha=>by have hj:j<k*sz:=(by have:=(ajr.1 ha).1;omega);rw[akj hj,akj amM,aki]at ha;obtain⟨x,h8,h9⟩:=g5 _ _ ha;refine⟨x,?_,h9⟩;rw[<- akD]at h8;simp[World.cell?,g2,h8]
 exact⟨cs,h6,by rw[h6.length,hlen],by rw[hlen]at h7;simpa[Builtin.firstCells]using h7⟩;cases h;split at h;rename_i s hsz;simp only[ajt,ajH]at h;obtain⟨rfl,rfl,rfl⟩:=h;simp only[VR]at hv;subst hv;subst hsz;refine⟨(s.map λb=>Value.int .u8 b.toNat).take k,?_,by simp;omega,?_⟩;refine VRL.of_get (by simp[u8s]) λi a ha=>?_
 have hj:i<k:=by have:=(ajr.1 ha).1;simp at this;omega
 simp only[Nat.mul_one]at ha;rw[akj hj]at ha⊢;simp only[u8s,akr,ajW]at ha⊢;obtain⟨b,h1,rfl⟩:=ha;exact⟨_,⟨b,h1,rfl⟩,rfl⟩;simp only[Builtin.firstCells,aj2];simp;cases h;cases h
theorem WX{t u e ty:TypeId}{sz n:Nat}{x y:AV}{p v:Value}{c:Prop}{new:List AV}(hR:Rel w0 S0 E L w)(ht:P.underlying t=some (.slice e))(hs:cL P e=some sz)(hx:VR E x p)(hy:VR E y v)(hel:elems L sz y=some (c,new,n))(hc:c):
  (x=.nilsl->cS P w0 S0 E L (.int .i64 0) w (Builtin.copy_ #[t,u] ty #[p,v])) /\
  (∀ i off m cap l,x=.lsl i off m cap sz->L[i]?=some (.cells l)->off+m * sz<=l.length->(new.take (min n m * sz)).all AV.one=true ->
   cS P w0 S0 E (L.set i (.cells (dw l off (new.take (min n m*sz))))) (.int .i64 (min n m:Nat)) w (Builtin.copy_ #[t,u] ty #[p,v])):=by
 obtain⟨h1,h2,_,_,_⟩:=bM (P:=P) hR hy hel hc;refine⟨λex=>?_,λi off m cap l ex hL hlt hone=>?_⟩<;>subst ex<;>simp only[VR]at hx;subst hx;obtain⟨cs',_,_,h5⟩:=S8 (P:=P) 0 (aju _) hR hy hel hc;refine .same hR (v:=.int .i64 0) ?_ (by simp[VR]);simp[Builtin.copy_,run_underlying ht,h1,bX hs,h5,goInt];obtain⟨cl,rc,d,g0,rfl,g1,g2,g3,g4⟩:=hx;obtain⟨cs',hrel,hcl,h6⟩:=S8 (P:=P) (min n m) (Nat.min_le_left _ _) hR hy hel hc;have hmul:min n m*sz<=m*sz:=akC _ (Nat.min_le_right _ _);have hmul2:min n m*sz<=n*sz:=akC _ (Nat.min_le_left _ _);have hlen:(new.take (min n m*sz)).length=min n m*sz:=by simp;omega
 have hrun:(Builtin.copy_ #[t,u] ty #[.slice (some ⟨cl.blk,d,none⟩) m rc,v]).run P w=((storeCells ⟨cl.blk,d,none⟩ cs').run P w).andThen λ_ w'=>.ok (.int .i64 (min n m:Nat)) w':=by unfold Builtin.copy_;simp only[alK,akn,akv,ajB,run_underlying ht,ajC,bX hs,h1,show Nat.min n m=min n m from rfl,h6];rfl
 by_cases hm:min n m*sz=0;have hcs:cs'=[]:=by rw[hm]at hcl;simpa using hcl
 subst hcs;refine⟨E,.int .i64 (min n m:Nat),w,by rw[hrun];simp[storeCells],.refl E,by simp[VR],?_⟩;have:dw l off []=l:=by simp[dw]
 have:L.set i (.cells l)=L:=by
  apply alv
  grind
 simp[*];have hrc:rc≠0:=by grind
 have hd:=g1 hrc;subst hd;obtain⟨w',r1,r2⟩:=OU (P:=P) (off:=off) hR hL g0 hrel (λx hx=>ajE.1 hone x hx) (by rw[hlen];omega);exact⟨E,.int .i64 (min n m:Nat),w',by rw[hrun,r1];rfl,.refl E,by simp[VR],r2⟩
theorem WF{z:List AV}(h:∀a∈z,AV.one a=true):∀n,∀a∈fq z n,AV.one a=true
 |0,a,ha=>by simp[fq]at ha
 |n+1,a,ha=>by simp only[fq,ajx]at ha;exact ha.elim (h a) (WF h n a)
theorem U6{t e ty:TypeId}{sz:Nat}{z:List AV}{x:AV}{p:Value}(hR:Rel w0 S0 E L w)(ht:P.underlying t=some (.slice e))(hs:cL P e=some sz)(hz:zOf P e=some z)(hzl:z.length=sz)(hx:VR E x p):
  (x=.nilsl->cS P w0 S0 E L (.tup []) w (Builtin.clear_ #[t] ty #[p])) /\
  (∀ i off m cap l,x=.lsl i off m cap sz->L[i]?=some (.cells l)->off+m * sz<=l.length ->
   cS P w0 S0 E (L.set i (.cells (dw l off (fq z m)))) (.tup []) w (Builtin.clear_ #[t] ty #[p])):=by
 obtain⟨zv,hz',hzr,hz1⟩:=OJ (E:=E) hz;refine⟨λex=>?_,λi off m cap l ex hL hlt=>?_⟩<;>subst ex<;>simp only[VR]at hx;subst hx;exact .same hR (v:=.tuple #[]) (by simp[Builtin.clear_,run_underlying ht]) ⟨[],rfl,rfl⟩;obtain⟨cl,rc,d,g0,rfl,g1,g2,g3,g4⟩:=hx;rcases akM m with hm|hm;subst hm;refine⟨E,.tuple #[],w,by simp[Builtin.clear_,run_underlying ht],.refl E,⟨[],rfl,rfl⟩,?_⟩;have:dw l off (fq z 0)=l:=by simp[dw,fq]
 have:L.set i (.cells l)=L:=by
  apply alv
  grind
 simp[*];have hd:=g1 amM;subst hd;have hrep:VRL E (fq z m) (Builtin.zeroCells zv.cells m).toList:=by have:=O0 hzr m;simpa[Builtin.zeroCells]using this
 obtain⟨w',r1,r2⟩:=OU (P:=P) (off:=off) hR hL g0 hrep (WF hz1 m) (by rw[iR,hzl];omega);refine⟨E,.tuple #[],w',?_,.refl E,⟨[],rfl,rfl⟩,r2⟩;cases m with
 |zero=>omega
 | succ m =>
   unfold Builtin.clear_;simp only[alK,akn,ajB,run_underlying ht,ajC,hz',r1,aj2]
end
open Go Go.MapKept
section
variable {P:Program}{w0:World}{S0:SB}{E:Env}{L:List Blk}{w:World}{T:Tm}{a:Act}
def JR(P:Program):Nat->List Field->List yB->Prop
 |_,[],[]=>True
 | i,f::fs,k::ks=>f.offset=i/\f.name ≠ "_" /\ Z9 P f.type=some k/\JR P (i+1) fs ks
 |_,_,_=>False
theorem YT:∀{fs:List Field}{i:Nat}{ks:List yB},YU P i fs=some ks->JR P i fs ks
 |[],i,ks,h=>by simp only[YU,ajt]at h;subst h;trivial
 | f::fs,i,ks,h=>by
   simp only[YU]at h;split at h
   .rename_i hc;split at h
    .rename_i k ks' h1 h2;simp only[ajt]at h;subst h;exact⟨hc.1,hc.2,h1,YT h2⟩
    .cases h
   .cases h
theorem RC{kt:TypeId}{ks:List yB}(h:fV P kt=some (.st ks)):∃fs:Array Field,P.underlying kt=some (.struct fs)/\P.stoodInHeld kt=false/\JR P 0 fs.toList ks:=by
 unfold fV at h;split at h<;>try simp only[ajt,reduceCtorEq]at h
 rename_i fs hu;split at h;rename_i hs;simp only[ajW,jD.st.injEq]at h;obtain⟨ks',h1,rfl⟩:=h;exact⟨fs,hu,hs,YT h1⟩;cases h
theorem RB{t:TypeId}{k:yB}(h:Z9 P t=some k):(k=.int/\∃q,P.underlying t=some (.int q))\/(k=.str/\P.underlying t=some .string)\/(k=.bool/\P.underlying t=some .bool):=by
 unfold Z9 at h
 grind
theorem ZZ{t:TypeId}{k:yB}(h:Z9 P t=some k){cs:Array Value}{i:Nat}{v:Value}(hc:cs[i]?=some v)(w:World):(part t cs i).run P w=.ok v w:=by rcases RB h with⟨_,q,hu⟩|⟨_,hu⟩|⟨_,hu⟩<;>simp[part,isAgg,run_underlying hu,hc]
theorem WJ:∀{ks:List yB}{l:List AV},p0 ks l=true->ks.length=l.length
 |[],[],_=>rfl
 |[],_::_,h=>by simp[p0]at h
 |_::_,[],h=>by simp[p0]at h
 |k::ks,a::l,h=>by simp only[p0,ajv]at h;simp[WJ h.2]
theorem ajf{t:TypeId}{k:yB}(h:Z9 P t=some k){a b:AV}{u v:Value}{r:Bool}(hf:ahz k a=true)(ha:VR E a u)(hb:VR E b v)(hq:UY a b=some r)(d:Nat)(w:World):(Op.equalIn (d+1) t u v).run P w=.ok r w:=by rcases RB h with⟨rfl,q,hu⟩|⟨rfl,hu⟩|⟨rfl,hu⟩<;>cases a<;>simp only[ahz,ajK]at hf<;>cases b<;>simp only[UY,reduceCtorEq]at hq<;>simp only[VR]at ha hb<;>subst ha<;>subst hb;split at hq<;>simp only[ajt,reduceCtorEq]at hq;rename_i e;subst e;subst hq;rw[run_equalIn_int w d t _ _ _ _ hu];rfl;simp only[ajt]at hq;subst hq;rw[run_equalIn_string w d t _ _ hu,<- beq_toListBytes];rename_i a b;congr 1;by_cases e:a=b;subst e;simp[bytes_beq];simp only[e,decide_false];rcases h':(({data:={toList:=a}}:ByteArray) == {data:={toList:=b}})with _|_;rfl;have:=(bytes_beq _ _).1 h';simp_all;simp only[ajt]at hq;subst hq;rw[run_equalIn_bool' w d t _ _ hu];rfl
theorem ag8(d:Nat)(xs ys:Array Value)(w:World):∀(fs:List Field) (ks:List yB) (i:Nat) (l m:List AV) (us vs:List Value) (r:Bool),JR P i fs ks->p0 ks l=true->VRL E l us->VRL E m vs->(∀j,us[j]?=xs[i+j]?)->(∀j,vs[j]?=ys[i+j]?)->Fi l m=some r->(Op.eqFields (d+1) xs ys fs).run P w=.ok r w
 | [],ks,i,l,m,us,vs,r,hf,hp,hl,hm,hx,hy,hq=>by
   cases ks with
   |cons k ks=>simp[JR]at hf
   | nil =>
     cases l with
     |cons a l=>simp[p0]at hp
     | nil =>
       cases m with
       |cons b m=>simp[Fi]at hq
       |nil=>simp only[Fi,ajt]at hq;subst hq;simp[Op.eqFields]
 | f::fs,ks,i,l,m,us,vs,r,hf,hp,hl,hm,hx,hy,hq=>by
   cases ks with
   |nil=>simp[JR]at hf
   | cons k ks =>
     cases l with
     |nil=>simp[p0]at hp
     | cons a l =>
       cases m with
       |nil=>simp[Fi]at hq
       | cons b m =>
         obtain⟨h1,h2,h3,h4⟩:=hf;simp only[p0,ajv]at hp;obtain⟨u,us',rfl,hu,hus⟩:=hl;obtain⟨v,vs',rfl,hv,hvs⟩:=hm;have ex:xs[i]?=some u:=(by have:=hx 0;simpa using this.symm);have ey:ys[i]?=some v:=(by have:=hy 0;simpa using this.symm);simp only[Fi]at hq;simp only[Op.eqFields,ne_eq,h2,not_false_eq_true,if_true,h1,ajB,ZZ h3 ex,ZZ h3 ey,ajC];cases hk:UY a b with
         |none=>rw[hk]at hq;cases hq
         | some c =>
           rw[hk]at hq;rw[ajf h3 hp.1 hu hv hk d w];cases c with
           |false=>simp only[ajt]at hq;subst hq;simp
           | true =>
             exact ag8 d xs ys w fs ks (i+1) l m us' vs' r h4 hp.2 hus hvs (λj=>by have:=hx (j+1);rw[show i+(j+1)=i+1+j by omega]at this;simpa using this) (λj=>by have:=hy (j+1);rw[show i+(j+1)=i+1+j by omega]at this;simpa using this) hq
theorem Vj{kt:TypeId}{ks:List yB}{fs:Array Field}(hu:P.underlying kt=some (.struct fs))(hs:P.stoodInHeld kt=false)(hf:JR P 0 fs.toList ks){l:List AV}{q:AV}{u v:Value}{r:Bool}(hp:p0 ks l=true)(hk:VR E (.agg l) u)(hv:VR E q v)(hq:Fs (.agg l) q=some r)(w:World):
  (Op.equal kt u v).run P w=.ok r w:=by
 cases q<;>simp only[Fs,reduceCtorEq]at hq;rename_i m;obtain⟨us,rfl,hus⟩:=hk;obtain⟨vs,rfl,hvs⟩:=hv;have e:P.fieldsOf kt=fs:=by simp[Program.fieldsOf,hu]
 have:=run_equalIn_struct (P:=P) w 9999 kt ⟨us⟩ ⟨vs⟩ (by rw[e];exact hu) hs;rw[e,ag8 9998 ⟨us⟩ ⟨vs⟩ w fs.toList ks 0 l m us vs r hf hp hus hvs (λj=>amN) (λj=>amN) hq]at this;exact this
theorem aex{t:TypeId}(hkd:fV P t=some (.st [.str,.str]))(hg:P.eqGuardType P.depth t=false){b c b' c':List UInt8}{u v:Value}(neg:Bool){op:BinOp}(hop:op=if neg then .neq else .eql)(hR:Rel w0 S0 E L w)(hu:VR E (.agg [.str b,.str c]) u)(hv:VR E (.agg [.str b',.str c']) v)(x y:Operand):
  cS P w0 S0 E L (.bool (if neg then !decide (b=b'/\c=c')else decide (b=b'/\c=c'))) w (do eqGuard op t x y u v;binOp op t u v):=by
 obtain⟨fs,h1,h2,h3⟩:=RC hkd;have hq:Fs (.agg [.str b,.str c]) (.agg [.str b',.str c'])=some (decide (b=b'/\c=c')):=by
  simp only[Fs,Fi,UY];by_cases e1:b=b'
  grind
  simp[*]
 have hE:=Vj h1 h2 h3 (l:=[.str b,.str c]) rfl hu hv hq w;have hu':=hu;have hv':=hv;obtain⟨us,rfl,_⟩:=hu';obtain⟨vs,rfl,_⟩:=hv';have hE':(Op.equalIn 10000 t (.agg ⟨us⟩) (.agg ⟨vs⟩)).run P w=.ok (decide (b=b'/\c=c')) w:=hE;cases neg with
 | true =>
   subst hop;refine .same (v:=.bool (!decide (b=b'/\c=c'))) hR ?_ (by simp only[if_true,VR]);simp only[ajB,run_eqGuard_agg w .neq t x y ⟨us⟩ ⟨vs⟩ hg,ajC,run_neq_struct,hE',if_true]
 | false =>
   subst hop;refine .same (v:=.bool (decide (b=b'/\c=c'))) hR ?_ (by simp only[ajK,if_false,VR]);simp only[ajK,if_false,ajB,run_eqGuard_agg w .eql t x y ⟨us⟩ ⟨vs⟩ hg,ajC,run_eql_struct,hE']
end
section
variable {P:Program}{w0:World}{S0:SB}{E:Env}{L:List Blk}{w:World}{T:Tm}{a:Act}
theorem ez.same{av:AV}{v:Value}{s:Sem Next}(hR:Rel w0 S0 E L w)(h:s.run P w=.ok (.value v) w)(hv:VR E av v):ez P w0 S0 E L av w s:=⟨E,v,w,.inl h,.refl E,hv,hR⟩
theorem dP{x:Option Operand}{y:Option Opd}{r:Option Int}(hT:TR E T a)(h:sY x=some y)(hb:bnd T y=some r):Rq a x r:=agB hT h hb
theorem adA{t:TypeId}{x:Operand}{g:Bool}{s:Nat}{y:Opd}{c:Prop}{av:AV}{L':List Blk}(hR:Rel w0 S0 E L w)(hT:TR E T a)(hg:ic P t=some g)(hs:cL P t=some s)(hx:bJ x=some y)(he:au T L (.load g s y)=some (c,av,L'))(hc:c):ez P w0 S0 E L' av w (do pure (.value (<- Instr.loadAt t (a.eval x)))):=by
 simp only[au]at he;rcases h1:evD T y with _|u;simp_all;simp only[h1,akV]at he;rcases h2:row L u with _|⟨l,off⟩;simp_all;simp only[h2]at he;have hv:=iJ hR hx h1 hT;cases g;obtain⟨rfl,rfl,rfl⟩:=he;exact(aaw hR hg h2 hv hc).done;obtain⟨rfl,rfl,rfl⟩:=he;exact(aav hR hg hs h2 hv hc).done
theorem abQ{t:TypeId}{p x:Operand}{s:Nat}{p' y:Opd}{c:Prop}{av:AV}{L':List Blk}(hR:Rel w0 S0 E L w)(hT:TR E T a)(hs:cL P t=some s)(hp:bJ p=some p')(hx:bJ x=some y)(he:au T L (.store s p' y)=some (c,av,L'))(hc:c):ez P w0 S0 E L' av w (do Instr.storeAt t (a.eval p) (a.eval x);pure .skip):=by
 simp only[au]at he;split at he<;>try cases he
 rename_i i off vals h1 h2;split at he<;>try cases he
 rename_i l hL;split at he<;>try cases he
 rename_i hq;rcases h3:evX T y with _|u;simp_all;simp only[h3,akV]at h2;obtain⟨w',r1,r2⟩:=aam (P:=P) hR hs rfl (ao hp h1 hT) hL (oL h2 (ao hx h3 hT)) hq.2 hq.1 hc;exact⟨E,undef,w',.inr ⟨by simp[r1],rfl⟩,.refl E,by simp[VR],r2⟩;rename_i l hL;split at he<;>try cases he
 rename_i hq;rcases h3:evX T y with _|u;simp_all;simp only[h3,akV]at h2;obtain⟨w',r1,r2⟩:=Zb (P:=P) hR hs rfl (ao hp h1 hT) hL (oL h2 (ao hx h3 hT)) hq.2 hq.1 hc;exact⟨E,undef,w',.inr ⟨by simp[r1],rfl⟩,.refl E,by simp[VR],r2⟩
theorem afJ{t e:TypeId}{x:Operand}{lo hi mx:Option Operand}{sz:Nat}{x':Opd}{lo' hi' mx':Option Opd}{c:Prop}{av:AV}{L':List Blk}(hR:Rel w0 S0 E L w)(hT:TR E T a)(hd:P.underlying t=some (.slice e))(hs:cL P e=some sz)(hx:bJ x=some x')(hlo:sY lo=some lo')(hhi:sY hi=some hi')(hmx:sY mx=some mx')(he:au T L (.slV sz x' lo' hi' mx')=some (c,av,L'))(hc:c):ez P w0 S0 E L' av w (do pure (.value (<- Instr.sliceAt t (a.eval x) (lo.map a.eval) (hi.map a.eval) (mx.map a.eval)))):=by
 simp only[au]at he;have mxnone:∀{r},bnd T mx'=some r->r=none->mx=none:=λ{r} hb hr=>by rcases dP hT hmx hb with⟨h,_⟩|⟨_,_,_,_,h,_⟩;omega;simp_all
 split at he;rename_i h1 h2 h3 h4;simp only[ajt,ajH]at he;obtain⟨rfl,rfl,rfl⟩:=he;have:=mxnone h4 rfl;subst this;exact(XJ hR hd hs (ao hx h1 hT) (dP hT hlo h2) (dP hT hhi h3) hc.1 hc.2).done;rename_i h1 h2 h3 h4;simp only[ajt,ajH]at he;obtain⟨rfl,rfl,rfl⟩:=he;have:=mxnone h4 rfl;subst this;exact((U3 hR hd hs (ao hx h1 hT) (dP hT hlo h2) (dP hT hhi h3) hc.1 hc.2.1).1 _ _ rfl hc.2.2).done;rename_i h1 h2 h3 h4;simp only[ajt,ajH]at he;obtain⟨rfl,rfl,rfl⟩:=he;rcases dP hT hhi h3 with⟨_,h⟩|⟨o1,k1,n1,rfl,q1,e1⟩;cases h;rcases dP hT hmx h4 with⟨_,h⟩|⟨o2,k2,n2,rfl,q2,e2⟩;cases h;cases q1;cases q2;exact(WW hR hd hs (ao hx h1 hT).gsl_sl.1 (dP hT hlo h2) e1 e2 hc.1 hc.2.1 hc.2.2.1 hc.2.2.2.1 hc.2.2.2.2).done;rename_i h1 h2 h3 h4;simp only[ajt,ajH]at he;obtain⟨rfl,rfl,rfl⟩:=he;rcases dP hT hhi h3 with⟨_,h⟩|⟨o1,k1,n1,rfl,q1,e1⟩;cases h;rcases dP hT hmx h4 with⟨_,h⟩|⟨o2,k2,n2,rfl,q2,e2⟩;cases h;cases q1;cases q2;exact(WW hR hd hs (ao hx h1 hT) (dP hT hlo h2) e1 e2 hc.1 hc.2.1 hc.2.2.1 hc.2.2.2.1 hc.2.2.2.2).done;rename_i h1 h2 h3 h4;simp only[ajt,ajH]at he;obtain⟨rfl,rfl,rfl⟩:=he;have:=mxnone h4 rfl;subst this;obtain⟨rfl,hc⟩:=hc;exact((U3 hR hd hs (ao hx h1 hT).gsl_sl.1 (dP hT hlo h2) (dP hT hhi h3) hc.1 hc.2.1).1 _ _ rfl hc.2.2).done;rename_i h1 h2 h3 h4;split at he<;>try cases he
 rename_i hsz;subst hsz;have:=mxnone h4 rfl;subst this;exact((U3 hR hd hs (ao hx h1 hT) (dP hT hlo h2) (dP hT hhi h3) hc.1 hc.2.1).2 _ _ _ rfl hc.2.2).done;rename_i h1 h2 h3 h4;split at he<;>try cases he
 rename_i hsz;subst hsz;rcases dP hT hhi h3 with⟨_,h⟩|⟨o1,k1,n1,rfl,q1,e1⟩;cases h;rcases dP hT hmx h4 with⟨_,h⟩|⟨o2,k2,n2,rfl,q2,e2⟩;cases h;cases q1;cases q2;exact(aao hR hd hs (ao hx h1 hT) (dP hT hlo h2) e1 e2 hc.1 hc.2.1 hc.2.2.1 hc.2.2.2).done;simp_all
theorem afK{t e:TypeId}{x:Operand}{lo hi:Option Operand}{n sz:Nat}{x':Opd}{lo' hi':Option Opd}{c:Prop}{av:AV}{L':List Blk}(hR:Rel w0 S0 E L w)(hT:TR E T a)(hd:P.underlying t=some (.array n e))(hs:cL P e=some sz)(hx:bJ x=some x')(hlo:sY lo=some lo')(hhi:sY hi=some hi')(he:au T L (.slA n sz x' lo' hi')=some (c,av,L'))(hc:c):ez P w0 S0 E L' av w (do pure (.value (<- Instr.sliceAt t (a.eval x) (lo.map a.eval) (hi.map a.eval) none))):=by
 simp only[au]at he;split at he;rename_i h1 h2 h3;simp only[ajt,ajH]at he;obtain⟨rfl,rfl,rfl⟩:=he;exact((Y3 hR hd hs (iJ hR hx h1 hT) (dP hT hlo h2) (dP hT hhi h3) hc.1 hc.2.1 hc.2.2.1).1 _ _ rfl).done;rename_i h1 h2 h3;split at he<;>try cases he
 rename_i l hL;exact((Y3 hR hd hs (iJ hR hx h1 hT) (dP hT hlo h2) (dP hT hhi h3) hc.1 hc.2.1 hc.2.2.1).2 _ _ _ rfl hL hc.2.2.2).done;simp_all
theorem abR{t e:TypeId}{x i:Operand}{sz:Nat}{x' i':Opd}{c:Prop}{av:AV}{L':List Blk}(hR:Rel w0 S0 E L w)(hT:TR E T a)(hd:P.underlying t=some (.slice e))(hs:cL P e=some sz)(hx:bJ x=some x')(hi:bJ i=some i')(he:au T L (.iaddr sz x' i')=some (c,av,L'))(hc:c):ez P w0 S0 E L' av w (do pure (.value (<- Instr.indexAt t (a.eval x) (a.eval i)))):=by
 simp only[au]at he;split at he<;>try cases he
 all_goals
  rename_i h1 h2;have hi':=ao hi h2 hT;simp only[VR]at hi';rw[hi']
 exact((Ok hR hd hs (ao hx h1 hT) hc.1).1 _ _ _ rfl hc.2).done;exact((Ok hR hd hs (ao hx h1 hT).gsl_sl.1 hc.1).1 _ _ _ rfl hc.2).done;exact((Ok hR hd hs (ao hx h1 hT) hc.1).2 _ _ _ _ _ rfl hc.2).done
theorem ZQ{t e:TypeId}{x i:Operand}{n sz:Nat}{x' i':Opd}{c:Prop}{av:AV}{L':List Blk}(hR:Rel w0 S0 E L w)(hT:TR E T a)(hd:P.underlying t=some (.array n e))(hs:cL P e=some sz)(hx:bJ x=some x')(hi:bJ i=some i')(he:au T L (.iaddrA n sz x' i')=some (c,av,L'))(hc:c):ez P w0 S0 E L' av w (do pure (.value (<- Instr.indexAt t (a.eval x) (a.eval i)))):=by
 simp only[au]at he;split at he<;>try cases he
 all_goals
  rename_i h1 h2;have hi':=ao hi h2 hT;simp only[VR]at hi';rw[hi']
 exact((S7 hR hd hs (iJ hR hx h1 hT) hc.1 hc.2).1 _ _ rfl).done;exact((S7 hR hd hs (iJ hR hx h1 hT) hc.1 hc.2).2 _ _ rfl).done
theorem abT{t:TypeId}{fs:Array Field}{f:Nat}{fd:Field}{x:Operand}{x':Opd}{c:Prop}{av:AV}{L':List Blk}(hR:Rel w0 S0 E L w)(hT:TR E T a)(hd:P.underlying t=some (.struct fs))(hf:fs.toList[f]?=some fd)(hz:(cL P fd.type).getD 0≠0)(hx:bJ x=some x')(he:au T L (.faddr fd.offset x')=some (c,av,L')):ez P w0 S0 E L' av w (do pure (.value (<- Instr.fieldAt t (a.eval x) f))):=by
 simp only[au]at he;split at he<;>try cases he
 all_goals rename_i h1
 exact((U5 hR hd hf hz (iJ hR hx h1 hT)).1 _ _ rfl).done;exact((U5 hR hd hf hz (iJ hR hx h1 hT)).2 _ _ rfl).done
theorem abS{t:TypeId}{fs:Array Field}{f sz:Nat}{g:Bool}{fd:Field}{x:Operand}{x':Opd}{c:Prop}{av:AV}{L':List Blk}(hR:Rel w0 S0 E L w)(hT:TR E T a)(hd:P.underlying t=some (.struct fs))(hf:fs.toList[f]?=some fd)(hg:ic P fd.type=some g)(hs:cL P fd.type=some sz)(hx:bJ x=some x')(he:au T L (.field g fd.offset sz x')=some (c,av,L'))(hc:c):ez P w0 S0 E L' av w (do pure (.value (<- Instr.field t (a.eval x) f))):=by
 simp only[au]at he;split at he<;>try cases he
 rename_i l h1;cases g;obtain⟨rfl,rfl,rfl⟩:=he;exact((U4 hR hd hf hg hs (ao hx h1 hT)).2 rfl hc).done;obtain⟨rfl,rfl,rfl⟩:=he;exact((U4 hR hd hf hg hs (ao hx h1 hT)).1 rfl hc).done
theorem afO{op:BinOp}{t u:TypeId}{x y:Operand}{lo:LOp}{c:Prop}{av:AV}{L':List Blk}(hR:Rel w0 S0 E L w)(hT:TR E T a)(hl:Of P op t x y=some lo)(he:au T L lo=some (c,av,L'))(hc:c):
  ez P w0 S0 E L' av w (do pure (.value (<- (do eqGuard op t x y (a.eval x) (a.eval y);binOp op t (a.eval x) (a.eval y))))):=by
 unfold Of at hl;split at hl<;>try cases hl
 rename_i x' y' hx hy;have plain:∀{lo:LOp},lo=.bin op x' y'->au T L lo=some (c,av,L')->ez P w0 S0 E L' av w (do pure (.value (<- (do eqGuard op t x y (a.eval x) (a.eval y);binOp op t (a.eval x) (a.eval y))))):=λhlo he=>by
  subst hlo;simp only[au]at he;split at he<;>try cases he
  rename_i u v h1 h2;rcases h3:bin op u v with _|⟨c',r⟩;simp_all
  .simp only[h3,ajQ,ajt,ajH]at he;obtain⟨rfl,rfl,rfl⟩:=he;have hu:=ao hx h1 hT;have hv:=ao hy h2 hT;have hguard:(eqGuard op t x y (a.eval x) (a.eval y)).run P w=.ok () w:=by
    have:(∃k n,a.eval x=.int k n)\/(∃s,a.eval x=.string s):=by
     unfold bin at h3;split at h3<;>try cases h3
     all_goals (simp only[VR]at hu)
     simp[*];simp[*];simp[*];simp[*]
    unfold eqGuard;rcases this with⟨k,n,e⟩|⟨s,e⟩<;>rw[e]<;>cases op<;>simp
   obtain⟨E',x1,w',r1,r2⟩:=aey (P:=P) (t:=t) hR hu hv h3 hc;exact⟨E',x1,w',.inl (by simp[hguard,r1]),r2⟩
 have eqs:∀(neg:Bool) (k:EqK) (d:TypeDesc),op=(if neg then .neq else .eql)->P.underlying t=some d->k.fits d=true->(k=.iface->(jo x ||jo y)=true)->au T L (.eqk neg k x' y')=some (c,av,L') ->
   ez P w0 S0 E L' av w (do pure (.value (<- (do eqGuard op t x y (a.eval x) (a.eval y);binOp op t (a.eval x) (a.eval y))))):=λneg k d hop hd hk hif he=>by
  simp only[au]at he;split at he<;>try cases he
  rename_i u v h1 h2;rcases h3:eqA k u v with _|r
  .simp_all
  .simp only[h3,ajQ,ajt,ajH]at he;obtain⟨rfl,rfl,rfl⟩:=he;exact(ags neg hop hR (ao hx h1 hT) (ao hy h2 hT) hd hk h3 x y hif).done
 have sln:∀(neg:Bool) (e:TypeId),op=(if neg then .neq else .eql)->P.underlying t=some (.slice e)->(if U1 y=true then some (LOp.slnil neg x')else none)=some lo->au T L lo=some (c,av,L') ->
   ez P w0 S0 E L' av w (do pure (.value (<- (do eqGuard op t x y (a.eval x) (a.eval y);binOp op t (a.eval x) (a.eval y))))):=λneg e hop hd hlo he=>by
  by_cases hnil:U1 y=true
  case neg=>rw[if_neg hnil]at hlo;cases hlo
  rw[if_pos hnil]at hlo;cases hlo;have hy':a.eval y=.slice none 0 0:=by
   unfold U1 at hnil;split at hnil
   .rfl
   simp_all
  rw[hy'];simp only[au]at he;split at he<;>try cases he
  all_goals
   rename_i h1;have hu:=ao hx h1 hT;simp only[VR]at hu;refine(aan neg hop hR hd ?_ x y).done
  .grind
  .grind
  .obtain⟨_,_,_,_,h2,_⟩:=hu;exact⟨_,_,h2,λe=>by cases e⟩
 have st2:∀(neg:Bool),op=(if neg then .neq else .eql)->(if aej P t=true then some (LOp.eq2 neg x' y')else none)=some lo->au T L lo=some (c,av,L') ->
   ez P w0 S0 E L' av w (do pure (.value (<- (do eqGuard op t x y (a.eval x) (a.eval y);binOp op t (a.eval x) (a.eval y))))):=λneg hop hlo he=>by
  by_cases h2:aej P t=true
  case neg=>rw[if_neg h2]at hlo;cases hlo
  rw[if_pos h2]at hlo;cases hlo;simp only[au]at he;split at he<;>try cases he
  rename_i b c b' c' h3 h4;unfold aej at h2;split at h2
  .rename_i hkd;exact(aex hkd (by simpa using h2) neg hop hR (ao hx h3 hT) (ao hy h4 hT) x y).done
  .cases h2
 split at hl;cases hl;exact plain rfl he;cases hl;exact plain rfl he
 .rename_i d _ _ hd;split at hl<;>try (cases hl;done)
  all_goals try cases hl
  exact eqs false .bool _ rfl hd rfl amN he;exact eqs true .bool _ rfl hd rfl amN he;exact eqs false .ptr _ rfl hd rfl amN he;exact eqs true .ptr _ rfl hd rfl amN he;exact sln false _ rfl hd hl he;exact sln true _ rfl hd hl he;exact eqs false .map _ rfl hd rfl amN he;exact eqs true .map _ rfl hd rfl amN he;exact eqs false .func _ rfl hd rfl amN he;exact eqs true .func _ rfl hd rfl amN he;split at hl<;>try cases hl
  rename_i hcst;exact eqs false .iface _ rfl hd rfl (λ_=>hcst) he;split at hl<;>try cases hl
  rename_i hcst;exact eqs true .iface _ rfl hd rfl (λ_=>hcst) he;exact st2 false rfl hl he;exact st2 true rfl hl he
 cases hl
end
end Go.Proofs.YtdnfjhflkkpokaaGreatDoor.Av
