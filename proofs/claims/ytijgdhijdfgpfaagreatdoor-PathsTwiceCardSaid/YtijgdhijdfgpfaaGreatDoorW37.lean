/- Translate, and what it calls, where the answer is an error: matrices beyond the limits or of determinant 0, lists of the wrong length. -/
import Derived.Test.YtijgdhijdfgpfaaGreatDoorW21
import Derived.Test.YtijgdhijdfgpfaaGreatDoorW12
import Derived.Test.YtijgdhijdfgpfaaGreatDoorW29
import Derived.Test.YtijgdhijdfgpfaaGreatDoorW33
import Derived.Test.YtijgdhijdfgpfaaGreatDoorW22
import Derived.Test.YtijgdhijdfgpfaaGreatDoorW18
import Derived.Test.YtijgdhijdfgpfaaGreatDoorW23
set_option linter.unusedSimpArgs false
set_option maxRecDepth 100000
set_option maxHeartbeats 8000000
namespace Go.Proofs.YtijgdhijdfgpfaaGreatDoor
open Go.RowKit
def fitB (a b c d:Int):Bool:=inE a&&(inE b&&(inE c&&inE d))
theorem c_fitB (a b c d:Int) (w:World):Calls Tryz.prog 98 #[.agg #[.int .i64 a,.int .i64 b,.int .i64 c,.int .i64 d]] w fun e w'=>e=.returned (.bool (fitB a b c d))∧Below w.heap.size w w':=by
 have HI:=Kh c_in
 go_enter Tryz.func98,Tryz.ntmps98
 go_wp2_with fail
 obtain⟨w1,hw1⟩:∃ w1,w.alloc (.cells #[.int .i64 a,.int .i64 b,.int .i64 c,.int .i64 d] 28)=w1:=⟨_,rfl⟩
 have X:=Blk.new w 28 #[.int .i64 a,.int .i64 b,.int .i64 c,.int .i64 d]
 rw[hw1]at X ⊢
 have HB:=Kh (show Below w.heap.size w w1 from hw1▸(Below.refl _ _).alloc (Nat.le_refl _) _)
 have x0:=X.at_ 0 rfl
 have x1:=X.at_ 1 rfl
 have x2:=X.at_ 2 rfl
 have x3:=X.at_ 3 rfl
 clear hw1 X
 refine(HI.out a w1).mono ?_
 rintro e w' ⟨rfl,hw'⟩
 obtain rfl:w1=w':=hw'.symm
 cases ha:inE a with
 | false=>
  go_wp2
  go_ret
  exact⟨ret_b (by simp only[fitB,ha,Bool.true_and,Bool.false_and]),HB.out⟩
 | true=>
  go_wp2_with fail
  refine(HI.out b w1).mono ?_
  rintro e w' ⟨rfl,hw'⟩
  obtain rfl:w1=w':=hw'.symm
  cases hb:inE b with
  | false=>
   go_wp2
   go_ret
   exact⟨ret_b (by simp only[fitB,ha,hb,Bool.true_and,Bool.false_and]),HB.out⟩
  | true=>
   go_wp2_with fail
   refine(HI.out c w1).mono ?_
   rintro e w' ⟨rfl,hw'⟩
   obtain rfl:w1=w':=hw'.symm
   cases hc:inE c with
   | false=>
    go_wp2
    go_ret
    exact⟨ret_b (by simp only[fitB,ha,hb,hc,Bool.true_and,Bool.false_and]),HB.out⟩
   | true=>
    go_wp2_with fail
    refine(HI.out d w1).mono ?_
    rintro e w' ⟨rfl,hw'⟩
    obtain rfl:w1=w':=hw'.symm
    cases hd:inE d with
    | false=>
     go_wp2
     go_ret
     exact⟨ret_b (by simp only[fitB,ha,hb,hc,hd,Bool.true_and,Bool.false_and]),HB.out⟩
    | true=>
     go_wp2
     go_ret
     exact⟨ret_b (by simp only[fitB,ha,hb,hc,hd,Bool.true_and]),HB.out⟩
theorem c_Det_bad (a b c d:Int) (w:World) (hf:fitB a b c d=false):Calls Tryz.prog 57 #[.agg #[.int .i64 a,.int .i64 b,.int .i64 c,.int .i64 d]] w fun e w'=>e=.returned (.tuple #[.int .i64 0,.int .i64 2])∧Below w.heap.size w w':=by
 have HF:=Kh (fun w1=>show Calls Tryz.prog 98 #[.agg #[.int .i64 a,.int .i64 b,.int .i64 c,.int .i64 d]] w1 fun e w'=>e=.returned (.bool false)∧Below w1.heap.size w1 w' from by
  have h:=c_fitB a b c d w1
  rw[hf]at h
  exact h)
 clear hf
 go_enter Tryz.func57,Tryz.ntmps57
 go_wp2_with fail
 obtain⟨w0,hw0⟩:∃ w0,w.alloc (.cells #[.int .i64 a,.int .i64 b,.int .i64 c,.int .i64 d] 28)=w0:=⟨_,rfl⟩
 rw[hw0]
 have HB:=Kh (show Below w.heap.size w w0 from hw0▸(Below.refl _ _).alloc (Nat.le_refl _) _)
 clear hw0
 refine(HF.out w0).mono ?_
 rintro e w1 ⟨rfl,hb1⟩
 have HB1:=bt HB hb1
 clear hb1
 go_wp2
 go_ret2
 exact⟨rfl,HB1.out⟩
theorem c_Apply_fit (a b c d p q:Int) (w:World) (hf:fitB a b c d=false):Calls Tryz.prog 31 #[.agg #[.int .i64 a,.int .i64 b,.int .i64 c,.int .i64 d],.agg #[.int .i64 p,.int .i64 q]] w fun e w'=>e=.returned (.tuple #[.agg #[.int .i64 0,.int .i64 0],.int .i64 2])∧Below w.heap.size w w':=by
 have HD:=Kh (fun w1=>show Calls Tryz.prog 57 #[.agg #[.int .i64 a,.int .i64 b,.int .i64 c,.int .i64 d]] w1 fun e w'=>e=.returned (.tuple #[.int .i64 0,.int .i64 2])∧Below w1.heap.size w1 w' from by
  exact c_Det_bad a b c d w1 hf)
 go_enter Tryz.func31,Tryz.ntmps31
 go_wp2_with fail
 obtain⟨w0,hw0,X0,X1,X2,hb0⟩:=bx3 w #[.int .i64 a,.int .i64 b,.int .i64 c,.int .i64 d] 28 #[.int .i64 p,.int .i64 q] 24 #[.int .i64 0,.int .i64 0] 24
 rw[hw0]
 refine(HD.out w0).mono ?_
 rintro e w1 ⟨rfl,hb1⟩
 have X3:=X2.below_ hb1 X2.lt
 have HX:=Kh X3
 have HB1:=Kh (hb0.trans (hb1.mono hb0.size))
 have c0:=X3.at_ 0 rfl
 have c1:=X3.at_ 1 rfl
 have f0:=X3.free_ 0
 have f1:=X3.free_ 1
 clear hw0 X0 X1 X2 hb0 hb1 X3
 go_wp2
 have X4:=(HX.out.set_ 0 (.int .i64 0)).set_ 1 (.int .i64 0)
 have e0:=X4.at_ 0 rfl
 have e1:=X4.at_ 1 rfl
 have e2:=(HX.out.set_ 0 (.int .i64 0)).at_ 0 rfl
 try simp only[Exit.inBlock,Exit.then]
 refine bodyPost_ret (by simp[results,Tryz.results31,go_sem,e0,e1,e2];try rfl) rfl ?_
 exact⟨rfl,(HB1.out.setCell (p:=⟨w.heap.size+1+1,0,none⟩) (by show w.heap.size≤w.heap.size+1+1;omega) _).setCell (p:=⟨w.heap.size+1+1,1,none⟩) (by show w.heap.size≤w.heap.size+1+1;omega) _⟩
theorem c_Apply_sing (a b c d p q:Int) (w:World) (ha:-1073741824≤a) (ha':a≤1073741824) (hb:-1073741824≤b) (hb':b≤1073741824) (hc:-1073741824≤c) (hc':c≤1073741824) (hd:-1073741824≤d) (hd':d≤1073741824) (h0:a*d - b*c=0):Calls Tryz.prog 31 #[.agg #[.int .i64 a,.int .i64 b,.int .i64 c,.int .i64 d],.agg #[.int .i64 p,.int .i64 q]] w fun e w'=>e=.returned (.tuple #[.agg #[.int .i64 0,.int .i64 0],.int .i64 11])∧Below w.heap.size w w':=by
 have HD:=Kh (fun w1=>show Calls Tryz.prog 57 #[.agg #[.int .i64 a,.int .i64 b,.int .i64 c,.int .i64 d]] w1 fun e w'=>e=.returned (.tuple #[.int .i64 0,.int .i64 0])∧Below w1.heap.size w1 w' from by
  have h:=c_Det a b c d w1 ha ha' hb hb' hc hc' hd hd'
  rw[h0]at h
  exact h)
 go_enter Tryz.func31,Tryz.ntmps31
 go_wp2_with fail
 obtain⟨w0,hw0,X0,X1,X2,hb0⟩:=bx3 w #[.int .i64 a,.int .i64 b,.int .i64 c,.int .i64 d] 28 #[.int .i64 p,.int .i64 q] 24 #[.int .i64 0,.int .i64 0] 24
 rw[hw0]
 refine(HD.out w0).mono ?_
 rintro e w1 ⟨rfl,hb1⟩
 have X3:=X2.below_ hb1 X2.lt
 have HX:=Kh X3
 have HB1:=Kh (hb0.trans (hb1.mono hb0.size))
 have c0:=X3.at_ 0 rfl
 have c1:=X3.at_ 1 rfl
 have f0:=X3.free_ 0
 have f1:=X3.free_ 1
 clear hw0 X0 X1 X2 hb0 hb1 X3
 go_wp2
 have X4:=(HX.out.set_ 0 (.int .i64 0)).set_ 1 (.int .i64 0)
 have e0:=X4.at_ 0 rfl
 have e1:=X4.at_ 1 rfl
 have e2:=(HX.out.set_ 0 (.int .i64 0)).at_ 0 rfl
 try simp only[Exit.inBlock,Exit.then]
 refine bodyPost_ret (by simp[results,Tryz.results31,go_sem,e0,e1,e2];try rfl) rfl ?_
 exact⟨rfl,(HB1.out.setCell (p:=⟨w.heap.size+1+1,0,none⟩) (by show w.heap.size≤w.heap.size+1+1;omega) _).setCell (p:=⟨w.heap.size+1+1,1,none⟩) (by show w.heap.size≤w.heap.size+1+1;omega) _⟩
theorem c_Translate_shape (vp:Option Addr) (n vc:Nat) (a b c d p q p' q':Int) (w:World) (hn:n=0∨23<n):
  Calls Tryz.prog 10 #[.agg #[.slice vp n vc,.int .i64 p,.int .i64 q,.int .i64 p',.int .i64 q'],.agg #[.int .i64 a,.int .i64 b,.int .i64 c,.int .i64 d]] w fun e w'=>e=.returned (.tuple #[.agg #[.slice none 0 0,.int .i64 0,.int .i64 0,.int .i64 0,.int .i64 0],.int .i64 4])∧Below w.heap.size w w':=by
 rcases hn with rfl|hn
 ·have h1:((0:Nat):Int)<1:=by decide
  go_enter Tryz.func10,Tryz.ntmps10
  go_wp2
  try simp only[Exit.inBlock,Exit.then]
  refine bodyPost_ret (by simp[results,Tryz.results10,go_sem];try rfl) rfl ?_
  exact⟨rfl,(((Below.refl _ w).alloc (Nat.le_refl _) _).alloc (by simp) _).alloc (by simp;omega) _⟩
 ·have h1:¬ ((n:Int)<1):=by omega
  have h2:(23:Int)<(n:Int):=by omega
  clear hn
  go_enter Tryz.func10,Tryz.ntmps10
  go_wp2
  try simp only[Exit.inBlock,Exit.then]
  refine bodyPost_ret (by simp[results,Tryz.results10,go_sem];try rfl) rfl ?_
  exact⟨rfl,(((Below.refl _ w).alloc (Nat.le_refl _) _).alloc (by simp) _).alloc (by simp;omega) _⟩
theorem c_Translate_err (vp:Option Addr) (n vc:Nat) (a b c d p q p' q' er:Int) (w:World) (hn0:0<n) (hn:n≤23) (her:er≠0)
  (hA:∀ w1,Calls Tryz.prog 31 #[.agg #[.int .i64 a,.int .i64 b,.int .i64 c,.int .i64 d],.agg #[.int .i64 p,.int .i64 q]] w1 fun e w'=>e=.returned (.tuple #[.agg #[.int .i64 0,.int .i64 0],.int .i64 er])∧Below w1.heap.size w1 w'):
  Calls Tryz.prog 10 #[.agg #[.slice vp n vc,.int .i64 p,.int .i64 q,.int .i64 p',.int .i64 q'],.agg #[.int .i64 a,.int .i64 b,.int .i64 c,.int .i64 d]] w fun e w'=>e=.returned (.tuple #[.agg #[.slice none 0 0,.int .i64 0,.int .i64 0,.int .i64 0,.int .i64 0],.int .i64 er])∧Below w.heap.size w w':=by
 have HA:=Kh hA
 have h1:¬ ((n:Int)<1):=by omega
 have h2:¬ ((23:Int)<(n:Int)):=by omega
 have hne:(er != 0)=true:=by rw[bne_iff_ne];exact her
 clear hA
 go_enter Tryz.func10,Tryz.ntmps10
 go_wp2_with fail
 obtain⟨w0,hw0,X0,X1,X2,hb0⟩:=bx3 w #[.slice vp n vc,.int .i64 p,.int .i64 q,.int .i64 p',.int .i64 q'] 26 #[.int .i64 a,.int .i64 b,.int .i64 c,.int .i64 d] 28 #[.slice none 0 0,.int .i64 0,.int .i64 0,.int .i64 0,.int .i64 0] 26
 rw[hw0]
 refine(HA.out w0).mono ?_
 rintro e w1 ⟨rfl,hb1⟩
 have X3:=X2.below_ hb1 X2.lt
 have HB1:=Kh (hb0.trans (hb1.mono hb0.size))
 have HX:=Kh (X3.alloc_ (.cells #[.int .i64 0,.int .i64 0] 24))
 have HB2:=Kh (HB1.out.alloc HB1.out.size (.cells #[.int .i64 0,.int .i64 0] 24))
 have c0:=HX.out.at_ 0 rfl
 have c1:=HX.out.at_ 1 rfl
 have c2:=HX.out.at_ 2 rfl
 have c3:=HX.out.at_ 3 rfl
 have c4:=HX.out.at_ 4 rfl
 have f0:=HX.out.free_ 0
 have f1:=HX.out.free_ 1
 have f2:=HX.out.free_ 2
 have f3:=HX.out.free_ 3
 have f4:=HX.out.free_ 4
 clear hw0 X0 X1 X2 hb0 hb1 X3
 go_wp2
 have X5:=((((HX.out.set_ 0 (.slice none 0 0)).set_ 1 (.int .i64 0)).set_ 2 (.int .i64 0)).set_ 3 (.int .i64 0)).set_ 4 (.int .i64 0)
 have e0:=X5.at_ 0 rfl
 have e1:=X5.at_ 1 rfl
 have e2:=X5.at_ 2 rfl
 have e3:=X5.at_ 3 rfl
 have e4:=X5.at_ 4 rfl
 have q0:=(HX.out.set_ 0 (.slice none 0 0)).at_ 0 rfl
 have q1:=((HX.out.set_ 0 (.slice none 0 0)).set_ 1 (.int .i64 0)).at_ 1 rfl
 have q2:=(((HX.out.set_ 0 (.slice none 0 0)).set_ 1 (.int .i64 0)).set_ 2 (.int .i64 0)).at_ 2 rfl
 have q3:=((((HX.out.set_ 0 (.slice none 0 0)).set_ 1 (.int .i64 0)).set_ 2 (.int .i64 0)).set_ 3 (.int .i64 0)).at_ 3 rfl
 try simp only[Exit.inBlock,Exit.then]
 refine bodyPost_ret (by simp[results,Tryz.results10,go_sem,e0,e1,e2,e3,e4,q0,q1,q2,q3];try rfl) rfl ?_
 have hge:w.heap.size≤w.heap.size+1+1:=by omega
 exact⟨rfl,((((HB2.out.setCell (p:=⟨w.heap.size+1+1,0,none⟩) hge _).setCell (p:=⟨w.heap.size+1+1,1,none⟩) hge _).setCell (p:=⟨w.heap.size+1+1,2,none⟩) hge _).setCell (p:=⟨w.heap.size+1+1,3,none⟩) hge _).setCell (p:=⟨w.heap.size+1+1,4,none⟩) hge _⟩
end Go.Proofs.YtijgdhijdfgpfaaGreatDoor
namespace Go.Proofs.YtijgdhijdfgpfaaGreatDoor
open Go.RowKit Eli
theorem QRow.cellOf {F:Nat→FP} {w:World} {g N:Nat} (h:QRow F w g N N) {i:Nat} (hi:i<N*4):w.cell? ⟨g,i,none⟩=some (cellOf w ⟨g,i,none⟩):=by
 obtain⟨u,hu⟩:=Option.isSome_iff_exists.1 (h.has i hi)
 rw[hu,cellOf_eq hu]
theorem QRow.shape {F:Nat→FP} {w:World} {g N:Nat} (h:QRow F w g N N) {u:Value} (hu:u∈rowCells w g (N*4)):(∃ s,u=.bool s)∨∃ p n c,u=.slice p n c:=by
 obtain⟨i,hj⟩:=List.getElem?_of_mem hu
 have hi:=rowCells_lt hj
 rw[rowCells_get hi]at hj
 injection hj with hj
 subst hj
 obtain⟨s,p,n,c,t,q,m,d,e0,e1,e2,e3,_⟩:=h.val (i / 4) (by omega)
 rcases(by omega:i % 4=0∨i % 4=1∨i % 4=2∨i % 4=3)with h4|h4|h4|h4
 ·rw[show i / 4*4=i by omega]at e0
  exact .inl ⟨s,cellOf_eq e0⟩
 ·rw[show i / 4*4+1=i by omega]at e1
  exact .inr ⟨p,n,c,cellOf_eq e1⟩
 ·rw[show i / 4*4+2=i by omega]at e2
  exact .inl ⟨t,cellOf_eq e2⟩
 ·rw[show i / 4*4+3=i by omega]at e3
  exact .inr ⟨q,m,d,cellOf_eq e3⟩
theorem QRow.one {F:Nat→FP} {w:World} {g N:Nat} (h:QRow F w g N N):∀ u∈rowCells w g (N*4),u.oneCell'=true:=by
 intro u hu
 rcases h.shape hu with⟨s,rfl⟩ |⟨p,n,c,rfl⟩ <;> rfl
theorem QRow.cells {F:Nat→FP} {w:World} {g N:Nat} (h:QRow F w g N N):∀ (j:Nat) (u:Value),(rowCells w g (N*4))[j]?=some u→w.cell? ⟨g,j,none⟩=some u:=by
 intro j u hj
 have hl:=rowCells_lt hj
 rw[rowCells_get hl]at hj
 rw[h.cellOf hl,hj]
theorem OwnQ.more {F R:Nat→FP} (hF:∀ j,Solid (F j)) {W w':World} {B n m g:Nat} {v v':Value} {xs:List Value} (h1:OwnK NotInt W B 67 4 v n xs) (h2:∀ j,j<n→QX (F j) W xs (j*4))
  (hr:QRow R W g m m) (h3:OwnK NotInt w' B 67 4 v' (n+m) (xs++rowCells W g (m*4))) (hg:W.grownBy w' v.ownBlock) (e2:∀ j,j<m→F (n+j)=R j):OwnQ F w' B v' (n+m):=by
 have h32:=I32.grown (K:=NotInt) (fun x=>not_int32 x) h1.2 hg
 refine⟨_,h3,fun j hj=>?_⟩
 by_cases hjn:j<n
 ·exact((h2 j hjn).i32 (hF j) h32).app
 ·obtain⟨k,rfl⟩:∃ k,j=n+k:=⟨j - n,by omega⟩
  have hk:k<m:=by omega
  have hl:xs.length=n*4:=h1.1.1
  obtain⟨s,p,c,d,t,q,e,f,c0,c1,c2,c3,hz⟩:=hr.val k hk
  rw[← e2 k hk]at hz
  refine⟨s,p,c,d,t,q,e,f,?_,?_,?_,?_,hF _ _ _ _ _ _ _ _ _ _ _ h32 hz⟩
  ·rw[List.getElem?_append_right (by omega),hl,show(n+k)*4 - n*4=k*4 by omega,rowCells_get (by omega),cellOf_eq c0]
  ·rw[List.getElem?_append_right (by omega),hl,show(n+k)*4+1 - n*4=k*4+1 by omega,rowCells_get (by omega),cellOf_eq c1]
  ·rw[List.getElem?_append_right (by omega),hl,show(n+k)*4+2 - n*4=k*4+2 by omega,rowCells_get (by omega),cellOf_eq c2]
  ·rw[List.getElem?_append_right (by omega),hl,show(n+k)*4+3 - n*4=k*4+3 by omega,rowCells_get (by omega),cellOf_eq c3]
structure MatAt (F:Nat→FP) (w:World) (go B R C m:Nat):Prop where
 lt:go<B
 hB:B≤w.heap.size
 c0:w.cell? ⟨go,0,none⟩=some (.int .i64 (R:Int))
 c1:w.cell? ⟨go,1,none⟩=some (.int .i64 (C:Int))
 c2:∃ p c,w.cell? ⟨go,2,none⟩=some (.slice p m c)∧OwnQ F w B (.slice p m c) m
 fr:w.frozen? ⟨go,2,none⟩=false
 stk:Stk NotU32 w go
theorem MatAt.keep {F:Nat→FP} (hF:∀ j,Solid (F j)) {w w':World} {go B R C m:Nat} (h:MatAt F w go B R C m) (hb:Below w.heap.size w w'):MatAt F w' go B R C m:=by
 obtain⟨p,c,e2,h2⟩:=h.c2
 exact⟨h.lt,Nat.le_trans h.hB hb.size,cell_next hb h.c0,cell_next hb h.c1,⟨p,c,cell_next hb e2,h2.keep hF hb⟩,frozen_keep hb (by rw[e2];rfl) h.fr,h.stk.next hb⟩
theorem OwnQ.box {F:Nat→FP} (hF:∀ j,Solid (F j)) {w w':World} {B n G:Nat} {v:Value} (h:OwnQ F w B v n) (h32:I32 w w') (hg:w.grownBy w' (some G)) (hG:G<B):OwnQ F w' B v n:=by
 obtain⟨xs,h1,h2⟩:=h
 have hne:∀ g,v.ownBlock=some g→some g≠some G:=fun g e e2=>by
  have:=own_ge h1.1 e.symm
  injection e2 with e2;omega
 refine⟨xs,⟨h1.1.kept hg ?_,fun g e=>?_⟩,fun j hj=>(h2 j hj).i32 (hF j) h32⟩
 ·cases hv:v.ownBlock with
  | none=>exact .inl rfl
  | some g=>exact .inr (hne g hv)
 ·have hs:=h1.2 g e
  have hb:=hg.block g hs.1 (hne g e)
  exact⟨Nat.lt_of_lt_of_le hs.1 hg.size,fun i u hu=>hs.2 i u ((World.cell?_of_block (a:=⟨g,i,none⟩) hb).symm.trans hu)⟩
theorem MatAt.more {F:Nat→FP} (hF:∀ j,Solid (F j)) {W w':World} {go B R C m n:Nat} {xs:List Value} {p:Option Addr} {c:Nat} {p':Option Addr} {c':Nat} (h:MatAt F W go B R C m) (hv:W.cell? ⟨go,2,none⟩=some (.slice p m c)) (h1:W.ownsRow B 67 4 (.slice p m c) m xs) (hO:OwnQ F w' B (.slice p' n c') n) (hg:W.grownBy w' (Value.slice p m c).ownBlock):
  w'.cell? ⟨go,2,none⟩=some (.slice p m c)∧w'.frozen? ⟨go,2,none⟩=false∧MatAt F (w'.setCell ⟨go,2,none⟩ (.slice p' n c')) go B R C n:=by
 have hne:some go≠(Value.slice p m c).ownBlock:=fun e=>by
  have:=own_ge h1 e
  have:=h.lt
  omega
 have hgo:go<W.heap.size:=Nat.lt_of_lt_of_le h.lt h.hB
 have hblk:=hg.block go hgo (fun e=>hne e)
 have d2:w'.cell? ⟨go,2,none⟩=some (.slice p m c):=(World.cell?_of_block (a:=⟨go,2,none⟩) hblk).trans hv
 have df:w'.frozen? ⟨go,2,none⟩=false:=(World.frozen?_of_block (a:=⟨go,2,none⟩) hblk).trans h.fr
 have hst:Stk NotU32 w' go:=⟨Nat.lt_of_lt_of_le hgo hg.size,fun i u hu=>h.stk.2 i u ((World.cell?_of_block (a:=⟨go,i,none⟩) hblk).symm.trans hu)⟩
 refine⟨d2,df,h.lt,by simpa using Nat.le_trans h.hB hg.size,?_,?_,⟨p',c',World.cell?_setCell_same' _ _ _ (by rw[d2];rfl),hO.box hF (I32.putU hst 2 _) (but_put w' go 2 _) h.lt⟩,frozen_set df,stk_put hst _ _ (fun _ h=>by cases h)⟩
 ·rw[World.cell?_setCell_other _ _ _ _ (by simp)];exact(World.cell?_of_block (a:=⟨go,0,none⟩) hblk).trans h.c0
 ·rw[World.cell?_setCell_other _ _ _ _ (by simp)];exact(World.cell?_of_block (a:=⟨go,1,none⟩) hblk).trans h.c1
end Go.Proofs.YtijgdhijdfgpfaaGreatDoor
namespace Go.Proofs.YtijgdhijdfgpfaaGreatDoor
open Go.RowKit
def ShR (x y:Nat→Int) (w:World) (vp:Option Addr) (len:Nat) (e:Ending):Prop:=∃ b:Bool,e=.returned (.bool b)∧(b=true→len≤30∧Shorts x y w vp len)
theorem c_short42 (vp:Option Addr) (len vc:Nat) (x y:Nat→Int) (w:World) (h:∀ j,j<len→∃ g o,vp=some ⟨g,o,none⟩∧g<w.heap.size∧QE (IsA (x j) (y j)) w g (o+j*4)) (hl:len≤9223372036854775807):
  Calls Tryz.prog 9 #[.slice vp len vc] w fun e w'=>w'=w∧ShR x y w vp len e:=by
 have HA:=Kh h
 clear h
 go_enter Tryz.func9,Tryz.ntmps9
 go_wp2_with fail
 go_loopw [3] (fun ii wr=>∃ i:Nat,i≤len∧ii=.int .i64 i∧wr=w∧Shorts x y w vp i) (fun ii _=>len - (intOf ii).toNat)
 case atStart=>exact⟨0,Nat.zero_le _,rfl,rfl,fun j hj=>absurd hj (Nat.not_lt_zero _)⟩
 case round=>
  obtain⟨i,hi,rfl,hwr,hsh⟩:=hrel
  obtain rfl:w=wr:=hwr.symm
  have HSH:=Kh hsh
  clear hsh hwr
  by_cases hlt:i<len
  ·obtain⟨g,o,rfl,hg,he⟩:=HA.out i hlt
   obtain⟨s',p1,n1,c1,t1,q1,m1,d1,a0,a1,a2,a3,hx⟩:=he
   have HXE:=Kh hx
   have hii:(i:Int)<(len:Int):=by omega
   clear hx
   by_cases hn1:4<n1
   ·have hn1i:(n1:Int) > 4:=by omega
    have hn1d:decide ((n1:Int) > 4)=true:=decide_eq_true hn1i
    go_wp2
    go_ret
    exact⟨rfl,false,rfl,fun h=>by cases h⟩
   ·have hn1i:¬ (n1:Int) > 4:=by omega
    by_cases hm1:4<m1
    ·have hm1i:(m1:Int) > 4:=by omega
     go_wp2
     go_ret
     exact⟨rfl,false,rfl,fun h=>by cases h⟩
    ·have hm1i:¬ (m1:Int) > 4:=by omega
     have HS2:=Kh (show Shorts x y w (some ⟨g,o,none⟩) (i+1)from fun j hj=>by
      by_cases h:j<i
      ·exact HSH.out j h
      ·obtain rfl:j=i:=by omega
       exact⟨g,o,rfl,hg,s',p1,n1,c1,t1,q1,m1,d1,a0,a1,a2,a3,HXE.out.1,HXE.out.2,by omega,by omega⟩)
     go_wp2
     go_roundw
     case rel=>exact⟨i+1,by omega,by go_num,by first|rfl|trivial,HS2.out⟩
     case measure=>simp[intOf];omega
  ·obtain rfl:len=i:=by omega
   go_wp2
   go_ret
   exact⟨rfl,_,rfl,fun h=>⟨by have:=of_decide_eq_true h;omega,HSH.out⟩⟩
theorem c_same42 (p1 p2:Option Addr) (n c1 c2:Nat) (f:Nat→Rat) (a b c d:Int) (w:World) (h1:QL (fun j=>IsQ (f j)) w (.slice p1 n c1) n) (h2:QL (fun j=>IsQ (f j)) w (.slice p2 n c2) n) (hn:n≤1000000) (hf:∀ j,j<n→hq (f j)≤35184372088830):
  Calls Tryz.prog 13 #[.agg #[.slice p1 n c1,.int .i64 a,.int .i64 b,.int .i64 c,.int .i64 d],.agg #[.slice p2 n c2,.int .i64 a,.int .i64 b,.int .i64 c,.int .i64 d]] w fun e w'=>e=.returned (.bool true)∧Below w.heap.size w w':=by
 have HS:=Kh (fun W (hb:Below w.heap.size w W)=>c_SameRats_eq (.slice p1 n c1) (.slice p2 n c2) n f W (h1.keep (fun _=>IsQ.solid _) hb) (h2.keep (fun _=>IsQ.solid _) hb) hn hf)
 clear h1 h2 hf
 go_enter Tryz.func13,Tryz.ntmps13
 go_wp2_with fail
 obtain⟨w0,hw0,XA,XB,hb0⟩:=bx2 w #[.slice p1 n c1,.int .i64 a,.int .i64 b,.int .i64 c,.int .i64 d] 26 #[.slice p2 n c2,.int .i64 a,.int .i64 b,.int .i64 c,.int .i64 d] 26
 rw[hw0]
 refine(HS.out w0 hb0).mono ?_
 rintro e w1 ⟨rfl,hb1⟩
 have XA1:=XA.below_ hb1 XA.lt
 have XB1:=XB.below_ hb1 XB.lt
 have a1:=XA1.at_ 1 rfl
 have a2:=XA1.at_ 2 rfl
 have a3:=XA1.at_ 3 rfl
 have a4:=XA1.at_ 4 rfl
 have b1:=XB1.at_ 1 rfl
 have b2:=XB1.at_ 2 rfl
 have b3:=XB1.at_ 3 rfl
 have b4:=XB1.at_ 4 rfl
 have HB1:=Kh (hb0.trans (hb1.mono hb0.size))
 clear hw0 XA XB hb0 hb1 XA1 XB1
 go_wp2
 go_ret
 exact⟨rfl,HB1.out⟩
end Go.Proofs.YtijgdhijdfgpfaaGreatDoor
namespace Go.Proofs.YtijgdhijdfgpfaaGreatDoor
open Eli
def linR (a b:Int) (p:Nat→Rat):Nat→Rat:=fun j=>(if 0<j then(a:Rat)*p (j - 1)else 0)+(b:Rat)*p j
theorem sumQ_swap (f:Nat→Nat→Rat) (n m:Nat):sumQ (fun i=>sumQ (fun l=>f i l) m) n=sumQ (fun l=>sumQ (fun i=>f i l) n) m:=by
 induction n with
 | zero=>exact(sumQ_zero (fun _ _=>rfl)).symm
 | succ n ih=>rw[sumQ,ih,← sumQ_add];exact sumQ_congr (fun _ _=>rfl)
theorem sumQ_front (f:Nat→Rat) (n:Nat):sumQ f (n+1)=f 0+sumQ (fun i=>f (i+1)) n:=by
 induction n with
 | zero=>show(0:Rat)+f 0=f 0+0;grind
 | succ n ih=>rw[sumQ,ih,sumQ];grind
theorem lin_comm (a b c d:Int) (p:Nat→Int):lin c d (lin a b p)=lin a b (lin c d p):=by
 funext j
 unfold lin
 by_cases h:0<j
 ·simp only[if_pos h]
  by_cases h1:0<j - 1
  ·simp only[if_pos h1];grind
  ·simp only[if_neg h1];grind
 ·simp only[if_neg h];grind
theorem mv_sat (a b c d:Int):∀ k i,k≤i→mv (i+1) a b c d k=mv i a b c d k
 | 0,_,_=>rfl
 | k+1,i,h=>by rw[mv,mv,if_pos (by omega),if_pos (by omega),mv_sat a b c d k i (by omega)]
theorem mv_up (a b c d:Int):∀ k i,i≤k→mv (i+1) a b c d (k+1)=lin a b (mv i a b c d k)
 | k,i,h=>by
  by_cases e:i=k
  ·subst e
   rw[mv,if_pos (by omega),mv_sat a b c d i i (Nat.le_refl _)]
  ·obtain⟨l,rfl⟩:∃ l,k=l+1:=⟨k - 1,by omega⟩
   rw[mv,if_neg (by omega),mv_up a b c d l i (by omega),mv,if_neg (by omega),lin_comm]
theorem mv_down {a b c d:Int} {k i:Nat} (h:i≤k):mv i a b c d (k+1)=lin c d (mv i a b c d k):=by
 rw[mv,if_neg (by omega)]
theorem cast_lin (a b:Int) (p:Nat→Int) (j:Nat):((lin a b p j:Int):Rat)=linR a b (fun i=>(p i:Rat)) j:=by
 unfold lin linR
 split <;> simp <;> grind
theorem linR_sum (a b:Int) (p:Nat→Rat) (f:Nat→Nat→Int) (n j:Nat):sumQ (fun i=>p i*linR a b (fun l=>(f i l:Rat)) j) n=linR a b (fun l=>sumQ (fun i=>p i*(f i l:Rat)) n) j:=by
 unfold linR
 by_cases h:0<j
 ·simp only[if_pos h]
  rw[← sumQ_mul,← sumQ_mul,← sumQ_add]
  exact sumQ_congr (fun i _=>by grind)
 ·simp only[if_neg h]
  rw[← sumQ_mul,Rat.zero_add]
  exact sumQ_congr (fun i _=>by grind)
theorem subst_lin (al be a b c d:Int) (p:Nat→Rat) (k j:Nat) (hp:p (k+1)=0):
  subst (linR al be p) (k+1) a b c d (k+2) j=linR (al*a+be*c) (al*b+be*d) (subst p k a b c d (k+1)) j:=by
 have e1:sumQ (fun i=>(if 0<i then(al:Rat)*p (i - 1)else 0)*(mv i a b c d (k+1) j:Int)) (k+2)=(al:Rat)*linR a b (subst p k a b c d (k+1)) j:=by
  rw[sumQ_front]
  simp only[Nat.lt_irrefl,if_false]
  unfold subst
  rw[← linR_sum a b p (fun i=>mv i a b c d k),← sumQ_mul,Rat.zero_mul,Rat.zero_add]
  refine sumQ_congr (fun i hi=>?_)
  rw[if_pos (by omega),mv_up a b c d k i (by omega),cast_lin,Nat.add_sub_cancel]
  grind
 have e2:sumQ (fun i=>(be:Rat)*p i*(mv i a b c d (k+1) j:Int)) (k+2)=(be:Rat)*linR c d (subst p k a b c d (k+1)) j:=by
  rw[sumQ,hp]
  unfold subst
  rw[← linR_sum c d p (fun i=>mv i a b c d k),← sumQ_mul]
  rw[show ∀ x:Rat,x+(be:Rat)*0*((mv (k+1) a b c d (k+1) j:Int):Rat)=x from fun x=>by grind]
  refine sumQ_congr (fun i hi=>?_)
  rw[mv_down (by omega),cast_lin]
  grind
 have e3:subst (linR al be p) (k+1) a b c d (k+2) j=(al:Rat)*linR a b (subst p k a b c d (k+1)) j+(be:Rat)*linR c d (subst p k a b c d (k+1)) j:=by
  rw[← e1,← e2,← sumQ_add]
  unfold subst
  refine sumQ_congr (fun i _=>?_)
  unfold linR
  grind
 rw[e3]
 unfold linR
 split <;> simp <;> grind
theorem subst_mv (a b c d a' b' c' d':Int) (i j:Nat):∀ k,subst (fun l=>(mv i a b c d k l:Rat)) k a' b' c' d' (k+1) j=(mv i (a*a'+b*c') (a*b'+b*d') (c*a'+d*c') (c*b'+d*d') k j:Rat):=by
 intro k
 induction k generalizing j with
 | zero=>
  show(0:Rat)+((if(0:Nat)=0 then 1 else 0:Int):Rat)*((if j=0 then 1 else 0:Int):Rat)=((if j=0 then 1 else 0:Int):Rat)
  split <;> simp <;> grind
 | succ k ih=>
  have hz:(fun l=>(mv i a b c d k l:Rat)) (k+1)=0:=by
   show((mv i a b c d k (k+1):Int):Rat)=0
   rw[mv_zero i a b c d k (k+1) (by omega)];rfl
  have hf:∀ al be,(fun l=>((lin al be (mv i a b c d k) l:Int):Rat))=linR al be (fun l=>(mv i a b c d k l:Rat)):=fun al be=>funext (fun l=>cast_lin al be _ l)
  by_cases h:k<i
  ·simp only[mv,if_pos h]
   rw[hf,subst_lin a b a' b' c' d' _ k j hz,cast_lin]
   unfold linR
   simp only[ih]
  ·simp only[mv,if_neg h]
   rw[hf,subst_lin c d a' b' c' d' _ k j hz,cast_lin]
   unfold linR
   simp only[ih]
theorem subst_subst (q:Nat→Rat) (a b c d a' b' c' d':Int) (m j:Nat):
  subst (subst q m a b c d (m+1)) m a' b' c' d' (m+1) j=subst q m (a*a'+b*c') (a*b'+b*d') (c*a'+d*c') (c*b'+d*d') (m+1) j:=by
 have h1:subst (subst q m a b c d (m+1)) m a' b' c' d' (m+1) j=sumQ (fun l=>sumQ (fun i=>q i*(mv i a b c d m l:Int)*(mv l a' b' c' d' m j:Int)) (m+1)) (m+1):=by
  unfold subst
  refine sumQ_congr (fun l _=>?_)
  rw[Rat.mul_comm,← sumQ_mul]
  exact sumQ_congr (fun i _=>by grind)
 rw[h1,← sumQ_swap]
 unfold subst
 refine sumQ_congr (fun i _=>?_)
 rw[← subst_mv a b c d a' b' c' d' i j m]
 unfold subst
 rw[← sumQ_mul]
 exact sumQ_congr (fun l _=>by grind)
theorem low_of {k x y:Int} (hk:k≠0) (h:Int.gcd x y=1):low (k*x) (k*y)=if y<0∨(y=0∧x<0)then(-x,-y)else(x,y):=by
 have hg:Int.gcd (k*x) (k*y)=k.natAbs:=by rw[Int.gcd_mul_left,h,Nat.mul_one]
 have hxy:¬ (x=0∧y=0):=by
  rintro⟨rfl,rfl⟩
  simp at h
 unfold low
 rw[hg]
 by_cases hp:0<k
 ·have e:((k.natAbs:Nat):Int)=k:=by omega
  rw[e,Int.mul_tdiv_cancel_left x hk,Int.mul_tdiv_cancel_left y hk]
  have h1:k*y<0↔y<0:=⟨fun h=>by rcases Int.lt_or_le y 0 with h2|h2;exact h2;exact absurd (Int.mul_nonneg (Int.le_of_lt hp) h2) (by omega),fun h=>Int.mul_neg_of_pos_of_neg hp h⟩
  have h2:k*x<0↔x<0:=⟨fun h=>by rcases Int.lt_or_le x 0 with h2|h2;exact h2;exact absurd (Int.mul_nonneg (Int.le_of_lt hp) h2) (by omega),fun h=>Int.mul_neg_of_pos_of_neg hp h⟩
  have h3:k*y=0↔y=0:=⟨fun h=>(Int.mul_eq_zero.1 h).resolve_left hk,fun h=>by rw[h,Int.mul_zero]⟩
  simp only[h1,h2,h3]
 ·have e:((k.natAbs:Nat):Int)=-k:=by omega
  have tx:(k*x).tdiv (-k)=-x:=by rw[Int.tdiv_neg,Int.mul_tdiv_cancel_left x hk]
  have ty:(k*y).tdiv (-k)=-y:=by rw[Int.tdiv_neg,Int.mul_tdiv_cancel_left y hk]
  rw[e,tx,ty]
  have hn:k<0:=by omega
  have h1:k*y<0↔0<y:=⟨fun h=>by rcases Int.lt_or_le 0 y with h2|h2;exact h2;exact absurd (Int.mul_nonneg_of_nonpos_of_nonpos (Int.le_of_lt hn) h2) (by omega),fun h=>Int.mul_neg_of_neg_of_pos hn h⟩
  have h2:k*x<0↔0<x:=⟨fun h=>by rcases Int.lt_or_le 0 x with h2|h2;exact h2;exact absurd (Int.mul_nonneg_of_nonpos_of_nonpos (Int.le_of_lt hn) h2) (by omega),fun h=>Int.mul_neg_of_neg_of_pos hn h⟩
  have h3:k*y=0↔y=0:=⟨fun h=>(Int.mul_eq_zero.1 h).resolve_left hk,fun h=>by rw[h,Int.mul_zero]⟩
  simp only[h1,h2,h3,Int.neg_neg]
  split <;> split <;> first|rfl |(exfalso;omega)
theorem low_spec {p q:Int} (h:Int.gcd p q≠0):∃ k x y:Int,k≠0∧Int.gcd x y=1∧p=k*x∧q=k*y∧low p q=(x,y)∧(0≤y∧(y=0→x=1))∧(x.natAbs≤p.natAbs∧y.natAbs≤q.natAbs):=by
 obtain⟨x,hx⟩:((Int.gcd p q:Nat):Int)∣p:=Int.gcd_dvd_left ..
 obtain⟨y,hy⟩:((Int.gcd p q:Nat):Int)∣q:=Int.gcd_dvd_right ..
 obtain⟨g,hg⟩:∃ g,Int.gcd p q=g:=⟨_,rfl⟩
 rw[hg]at hx hy h
 have hg0:(g:Int)≠0:=by omega
 have h1:Int.gcd x y=1:=by
  have h2:Int.gcd p q=g*Int.gcd x y:=by rw[hx,hy,Int.gcd_mul_left];simp
  rw[hg]at h2
  exact Nat.eq_of_mul_eq_mul_left (Nat.pos_of_ne_zero h) (by omega)
 have hL:=low_of hg0 h1
 rw[← hx,← hy]at hL
 have hxy:¬ (x=0∧y=0):=by
  rintro⟨rfl,rfl⟩
  simp at h1
 have b1:x.natAbs≤p.natAbs:=by rw[hx,Int.natAbs_mul];exact Nat.le_mul_of_pos_left _ (by omega)
 have b2:y.natAbs≤q.natAbs:=by rw[hy,Int.natAbs_mul];exact Nat.le_mul_of_pos_left _ (by omega)
 have hone:y=0→x.natAbs=1:=fun h=>by rw[h]at h1;simpa using h1
 by_cases hs:y<0∨(y=0∧x<0)
 ·rw[if_pos hs]at hL
  refine⟨-g,-x,-y,by omega,by rw[Int.gcd_neg,Int.neg_gcd];exact h1,by rw[hx];grind,by rw[hy];grind,hL,⟨by omega,fun h=>?_⟩,by omega,by omega⟩
  have:=hone (by omega)
  omega
 ·rw[if_neg hs]at hL
  refine⟨g,x,y,hg0,h1,hx,hy,hL,⟨by omega,fun h=>?_⟩,b1,b2⟩
  have:=hone h
  omega
theorem low_twice {a b c d p q a' b' c' d':Int} (h:Int.gcd (a*p+b*q) (c*p+d*q)≠0) (h2:Int.gcd (a'*(low (a*p+b*q) (c*p+d*q)).1+b'*(low (a*p+b*q) (c*p+d*q)).2) (c'*(low (a*p+b*q) (c*p+d*q)).1+d'*(low (a*p+b*q) (c*p+d*q)).2)≠0):
  low (a'*(low (a*p+b*q) (c*p+d*q)).1+b'*(low (a*p+b*q) (c*p+d*q)).2) (c'*(low (a*p+b*q) (c*p+d*q)).1+d'*(low (a*p+b*q) (c*p+d*q)).2)=low ((a'*a+b'*c)*p+(a'*b+b'*d)*q) ((c'*a+d'*c)*p+(c'*b+d'*d)*q):=by
 obtain⟨k,x,y,hk,h1,e1,e2,e3,-⟩:=low_spec h
 rw[e3]at h2 ⊢
 dsimp only at h2 ⊢
 obtain⟨l,u,v,hl,g1,f1,f2,f3,-⟩:=low_spec h2
 have m1:(a'*a+b'*c)*p+(a'*b+b'*d)*q=k*l*u:=by
  have:(a'*a+b'*c)*p+(a'*b+b'*d)*q=a'*(a*p+b*q)+b'*(c*p+d*q):=by grind
  rw[this,e1,e2,Int.mul_assoc,← f1];grind
 have m2:(c'*a+d'*c)*p+(c'*b+d'*d)*q=k*l*v:=by
  have:(c'*a+d'*c)*p+(c'*b+d'*d)*q=c'*(a*p+b*q)+d'*(c*p+d*q):=by grind
  rw[this,e1,e2,Int.mul_assoc,← f2];grind
 rw[m1,m2,low_of (Int.mul_ne_zero hk hl) g1,f1,f2,low_of hl g1]
theorem abs_mul_le {x y:Int} {A B:Nat} (h:x.natAbs≤A) (h2:y.natAbs≤B):(x*y).natAbs≤A*B:=by
 rw[Int.natAbs_mul];exact Nat.mul_le_mul h h2
theorem abs_lin_le {a b x y:Int} {A B:Nat} (ha:a.natAbs≤A) (hb:b.natAbs≤A) (hx:x.natAbs≤B) (hy:y.natAbs≤B):(a*x+b*y).natAbs≤2*(A*B):=by
 have h1:=abs_mul_le ha hx
 have h2:=abs_mul_le hb hy
 omega
theorem appV_twice {a b c d a' b' c' d' p q:Int} (ha:a.natAbs≤60) (hb:b.natAbs≤60) (hc:c.natAbs≤60) (hd:d.natAbs≤60) (ha':a'.natAbs≤60) (hb':b'.natAbs≤60) (hc':c'.natAbs≤60) (hd':d'.natAbs≤60)
  (hp:p.natAbs≤1000) (hq:q.natAbs≤1000) (h0:cuspE p q=0) (hdet:a*d - b*c≠0) (hdet':a'*d' - b'*c'≠0):
  (appV a b c d p q).2=0∧appV a' b' c' d' (appV a b c d p q).1.1 (appV a b c d p q).1.2=appV (a'*a+b'*c) (a'*b+b'*d) (c'*a+d'*c) (c'*b+d'*d) p q∧(appV (a'*a+b'*c) (a'*b+b'*d) (c'*a+d'*c) (c'*b+d'*d) p q).2=0:=by
 obtain⟨_,_,hg⟩:=cuspE_zero h0
 have g1:=image_ne hdet hg
 have b1:=abs_lin_le ha hb hp hq
 have b2:=abs_lin_le hc hd hp hq
 obtain⟨k,x,y,hk,hxy,e1,e2,e3,⟨hy0,hy1⟩,n1,n2⟩:=low_spec g1
 have r1:inE x=true:=inE_iff.2 (by omega)
 have r2:inE y=true:=inE_iff.2 (by omega)
 have hE:appV a b c d p q=((x,y),0):=by
  unfold appV
  rw[if_neg (by simp[h0]),e3,if_pos ⟨r1,r2⟩]
 have hC:cuspE x y=0:=by
  unfold cuspE
  rw[if_neg (by simp[r1,r2];omega),if_neg (by rintro(h |⟨h,h'⟩);exact h hxy;exact h' (hy1 h))]
 have g2:=image_ne hdet' hxy
 have b3:=abs_lin_le ha' hb' (B:=120000) (x:=x) (y:=y) (by omega) (by omega)
 have b4:=abs_lin_le hc' hd' (B:=120000) (x:=x) (y:=y) (by omega) (by omega)
 obtain⟨l,u,v,hl,huv,f1,f2,f3,_,m1,m2⟩:=low_spec g2
 have r3:inE u=true:=inE_iff.2 (by omega)
 have r4:inE v=true:=inE_iff.2 (by omega)
 have hT:low ((a'*a+b'*c)*p+(a'*b+b'*d)*q) ((c'*a+d'*c)*p+(c'*b+d'*d)*q)=(u,v):=by
  have h:=low_twice g1 (a':=a') (b':=b') (c':=c') (d':=d') (by rw[e3];exact g2)
  rw[e3]at h
  dsimp only at h
  rw[← h,f3]
 have hF:appV (a'*a+b'*c) (a'*b+b'*d) (c'*a+d'*c) (c'*b+d'*d) p q=((u,v),0):=by
  unfold appV
  rw[if_neg (by simp[h0]),hT,if_pos ⟨r3,r4⟩]
 rw[hE,hF]
 refine⟨rfl,?_,rfl⟩
 unfold appV
 dsimp only
 rw[if_neg (by simp[hC]),f3,if_pos ⟨r3,r4⟩]
theorem det_mul (a b c d a' b' c' d':Int):(a'*a+b'*c)*(c'*b+d'*d) - (a'*b+b'*d)*(c'*a+d'*c)=(a'*d' - b'*c')*(a*d - b*c):=by grind
end Go.Proofs.YtijgdhijdfgpfaaGreatDoor
