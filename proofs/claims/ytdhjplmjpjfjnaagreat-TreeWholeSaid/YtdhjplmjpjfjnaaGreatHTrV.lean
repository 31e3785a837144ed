/- Joined texts of the walk, made small by a program. -/
import Derived.Test.YtdhjplmjpjfjnaaGreatHY1
import Derived.Test.YtdhjplmjpjfjnaaGreatHCodeT1
import Derived.Test.YtdhjplmjpjfjnaaGreatHD2
import Derived.Test.YtdhjplmjpjfjnaaGreatHP5
import Derived.WalkKit
import Derived.WalkLawsBesides
import Derived.Deep.QuietTactic
import Derived.Deep.LoopGhost
import Derived.BigQuiet
import Derived.Lib.Walk
set_option linter.unusedSimpArgs false
set_option linter.unusedVariables false
namespace Go.Proofs
open Go Go.Lib Go.RowKit Go.Proofs.YtdhjplmjpjfjnaaGreat.Av
set_option maxHeartbeats 2000000
set_option maxRecDepth 100000
theorem Tryz.isnan_c (a:ByteArray) (w:World):Calls Tryz.prog 112 #[.string a] w fun e w'=>e=.returned (.bool false)∧w'=w:=by
 go_enter Tryz.func112,Tryz.ntmps112
 go_wp2
 go_ret
 exact ⟨by simp,rfl⟩
theorem Tryz.cmps_c (a b:ByteArray) (w:World):Calls Tryz.prog 72 #[.string a,.string b] w fun e w'=>e=.returned (.int .i64 (if Op.bytesLess a.toList b.toList then -1 else if Op.bytesLess b.toList a.toList then 1 else 0))∧w'=w:=by
 have h1:=fun s W=>Tryz.isnan_c s W
 obtain ⟨p,hp⟩:∃ p,Op.bytesLess a.toList b.toList=p:=⟨_,rfl⟩
 obtain ⟨q,hq⟩:∃ q,Op.bytesLess b.toList a.toList=q:=⟨_,rfl⟩
 rw [hp,hq]
 have ht:p=false→q=false→a.toList=b.toList:=fun e1 e2=>by
   rw [e1,bytesLess_eq,decide_eq_false_iff_not] at hp
   rw [e2,bytesLess_eq,decide_eq_false_iff_not] at hq
   exact K8 hp hq
 cases p<;>cases q
 all_goals
   go_enter Tryz.func72,Tryz.ntmps72
   go_wp2_with (go_at_call 112;refine (h1 _ _).mono ?_;rintro e w' ⟨rfl,rfl⟩)
 all_goals (go_ret;first|exact ⟨rfl,rfl⟩|(exfalso;simp_all;done))
theorem Tryz.cmpn_c (x:List (List UInt8)) (y:List (List UInt8)) (b1 o1 c b2 o2 d:Nat) (w:World) (hb1:x.length≤1100000) (hb2:y.length≤1100000) (hc1:∀ j,j<x.length→w.cell? ⟨b1,o1+j,none⟩=some (.string ⟨⟨x.getD j []⟩⟩)) (hc2:∀ j,j<y.length→w.cell? ⟨b2,o2+j,none⟩=some (.string ⟨⟨y.getD j []⟩⟩)) :
   Calls Tryz.prog 42 #[.slice (some ⟨b1,o1,none⟩) x.length c,.slice (some ⟨b2,o2,none⟩) y.length d] w fun e w'=>e=.returned (.int .i64 (cpP x y))∧w'=w:=by
 have h1:=fun a b W=>Tryz.cmps_c a b W
 go_enter Tryz.func42,Tryz.ntmps42
 go_wp2
 go_loopg [11] x.length (fun g s11 wr=>∃ k:Nat,k≤x.length∧k≤y.length∧x.length - k≤g∧s11=.int .i64 k∧wr=w∧cpP (x.drop k) (y.drop k)=cpP x y)
 case atStart=>exact ⟨0,Nat.zero_le _,Nat.zero_le _,by omega,rfl,rfl,rfl⟩
 case round =>
   obtain ⟨k,hk,hky,hg,rfl,rfl,heq⟩:=hrel
   by_cases hlt:k<x.length
   · have d1:x.drop k=x.getD k []::x.drop (k+1):=by rw [List.drop_eq_getElem_cons hlt];simp [hlt]
     have g1:=hc1 k hlt
     rw [d1] at heq
     obtain ⟨s,hs⟩:∃ s,x.getD k []=s:=⟨_,rfl⟩
     rw [hs] at g1 heq
     by_cases hly:k<y.length
     · have d2:y.drop k=y.getD k []::y.drop (k+1):=by rw [List.drop_eq_getElem_cons hly];simp [hly]
       have g2:=hc2 k hly
       rw [d2] at heq
       obtain ⟨t,ht⟩:∃ t,y.getD k []=t:=⟨_,rfl⟩
       rw [ht] at g2 heq
       have hcon:=h1 ⟨⟨s⟩⟩ ⟨⟨t⟩⟩ wr
       rw [cpP] at heq
       obtain ⟨z,hz⟩:∃ z,cpS s t=z:=⟨_,rfl⟩
       rw [show (if Op.bytesLess (ByteArray.mk ⟨s⟩).toList (ByteArray.mk ⟨t⟩).toList then (-1:Int) else if Op.bytesLess (ByteArray.mk ⟨t⟩).toList (ByteArray.mk ⟨s⟩).toList then 1 else 0)=z from by rw [ByteArray.toList_mk,ByteArray.toList_mk,← hz,bytesLess_eq,bytesLess_eq];simp [cpS]] at hcon
       rw [hz] at heq
       have A:Aside (cpP x y=if z≠0 then z else cpP (x.drop (k+1)) (y.drop (k+1))):=heq.symm
       clear heq hc1 hc2 d1 d2 hs ht hz h1
       by_cases hz0:z=0
       · subst hz0
         go_wp2_with (go_at_call 72;refine hcon.mono ?_;rintro e w' ⟨rfl,rfl⟩)
         go_roundg (x.length - (k+1))
         case measure=>omega
         case rel=>exact ⟨k+1,by omega,by omega,by omega,by go_num,rfl,by have:=A.out;simp only [ne_eq,not_true_eq_false,if_false] at this;exact this.symm⟩
       · go_wp2_with (go_at_call 72;refine hcon.mono ?_;rintro e w' ⟨rfl,rfl⟩)
         all_goals go_ret
         have:=A.out
         rw [if_pos hz0] at this
         exact ⟨by rw [this];rfl,rfl⟩
     · have A:Aside (cpP x y=1):=by
         show cpP x y=1
         rw [List.drop_of_length_le (l:=y) (by omega),cpP] at heq
         exact heq.symm
       clear heq hc1 hc2 d1 hs h1
       go_wp2
       go_ret
       exact ⟨by rw [A.out];rfl,rfl⟩
   · have hkx:k=x.length:=by omega
     have A:Aside (cpP x y=if x.length<y.length then -1 else 0):=by
       show cpP x y=if x.length<y.length then -1 else 0
       rw [List.drop_of_length_le (l:=x) (by omega)] at heq
       by_cases hly:k<y.length
       · rw [List.drop_eq_getElem_cons hly,cpP] at heq
         rw [if_pos (by omega)];exact heq.symm
       · rw [List.drop_of_length_le (l:=y) (by omega),cpP] at heq
         rw [if_neg (by omega)];exact heq.symm
     subst hkx
     clear heq hc1 hc2 h1
     by_cases hl:x.length<y.length
     · go_wp2
       all_goals (go_ret;first|exact ⟨by rw [A.out,if_pos hl];rfl,rfl⟩|(exfalso;omega))
     · go_wp2
       all_goals (go_ret;first|exact ⟨by rw [A.out,if_neg hl];rfl,rfl⟩|(exfalso;omega))
theorem Tryz.scp_c (x y:List (List UInt8)) (a b:Int) (bb bo vb vo mb na oa pa qa ca nb ob pb qb cb:Nat) (W:World)
   (hb1:x.length≤1100000) (hb2:y.length≤1100000)
   (e1:W.cell? ⟨bb,bo,none⟩=some (.pointer (some ⟨vb,vo,none⟩)))
   (e2:W.cell? ⟨vb,vo+1,none⟩=some (.map (some mb)))
   (e3:∀ n,(Instr.lookup 84 (.map (some mb)) (.int .i64 a) false).run Tryz.prog (W.drewN n)=.ok (.pointer (some ⟨na,oa,none⟩)) (W.drewN n))
   (e4:∀ n,(Instr.lookup 84 (.map (some mb)) (.int .i64 b) false).run Tryz.prog (W.drewN n)=.ok (.pointer (some ⟨nb,ob,none⟩)) (W.drewN n))
   (e5:W.cell? ⟨na,oa+1,none⟩=some (.slice (some ⟨pa,qa,none⟩) x.length ca))
   (e6:W.cell? ⟨nb,ob+1,none⟩=some (.slice (some ⟨pb,qb,none⟩) y.length cb))
   (hc1:∀ j,j<x.length→W.cell? ⟨pa,qa+j,none⟩=some (.string ⟨⟨x.getD j []⟩⟩)) (hc2:∀ j,j<y.length→W.cell? ⟨pb,qb+j,none⟩=some (.string ⟨⟨y.getD j []⟩⟩)) :
   Calls Tryz.prog 41 #[.int .i64 a,.int .i64 b,.pointer (some ⟨bb,bo,none⟩)] W fun e w'=>e=.returned (.int .i64 (cpP x y))∧∃ q,w'=W.drewN q:=by
 have hcon:=fun n=>Tryz.cmpn_c x y pa qa ca pb qb cb (W.drewN n) hb1 hb2 hc1 hc2
 generalize cpP x y=r at hcon ⊢
 clear hc1 hc2
 go_enter Tryz.func41,Tryz.ntmps41
 go_wp2
 go_quiet (exact Calls.quiet_of_same (hcon _))
 go_wp2
 go_ret
 exact ⟨rfl,_,rfl⟩
end Go.Proofs
