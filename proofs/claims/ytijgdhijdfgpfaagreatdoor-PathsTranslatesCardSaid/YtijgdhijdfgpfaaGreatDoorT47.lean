/- Translate, and what it calls, where the answer is an error: matrices beyond the limits or of determinant 0, lists of the wrong length. -/
import Derived.Test.YtijgdhijdfgpfaaGreatDoorT31
import Derived.Test.YtijgdhijdfgpfaaGreatDoorT12
import Derived.Test.YtijgdhijdfgpfaaGreatDoorT39
import Derived.Test.YtijgdhijdfgpfaaGreatDoorT43
import Derived.Test.YtijgdhijdfgpfaaGreatDoorT32
set_option linter.unusedSimpArgs false
set_option maxRecDepth 100000
set_option maxHeartbeats 8000000
namespace Go.Proofs.YtijgdhijdfgpfaaGreatDoor
open Go.RowKit
def fitB (a b c d:Int):Bool:=inE a&&(inE b&&(inE c&&inE d))
theorem c_fitB (a b c d:Int) (w:World):Calls Tryz.prog 98 #[.agg #[.int .i64 a,.int .i64 b,.int .i64 c,.int .i64 d]] w fun e w'=>e=.returned (.bool (fitB a b c d))∧Below w.heap.size w w':=by
 have HI:=Kh c_in
 go_enter Tryz.func98,Tryz.ntmps98
 go_wp2_with fail
 obtain⟨w1,hw1⟩:∃ w1,w.alloc (.cells #[.int .i64 a,.int .i64 b,.int .i64 c,.int .i64 d] 28)=w1:=⟨_,rfl⟩
 have X:=Blk.new w 28 #[.int .i64 a,.int .i64 b,.int .i64 c,.int .i64 d]
 rw[hw1]at X ⊢
 have HB:=Kh (show Below w.heap.size w w1 from hw1▸(Below.refl _ _).alloc (Nat.le_refl _) _)
 have x0:=X.at_ 0 rfl
 have x1:=X.at_ 1 rfl
 have x2:=X.at_ 2 rfl
 have x3:=X.at_ 3 rfl
 clear hw1 X
 refine(HI.out a w1).mono ?_
 rintro e w' ⟨rfl,hw'⟩
 obtain rfl:w1=w':=hw'.symm
 cases ha:inE a with
 | false=>
  go_wp2
  go_ret
  exact⟨ret_b (by simp only[fitB,ha,Bool.true_and,Bool.false_and]),HB.out⟩
 | true=>
  go_wp2_with fail
  refine(HI.out b w1).mono ?_
  rintro e w' ⟨rfl,hw'⟩
  obtain rfl:w1=w':=hw'.symm
  cases hb:inE b with
  | false=>
   go_wp2
   go_ret
   exact⟨ret_b (by simp only[fitB,ha,hb,Bool.true_and,Bool.false_and]),HB.out⟩
  | true=>
   go_wp2_with fail
   refine(HI.out c w1).mono ?_
   rintro e w' ⟨rfl,hw'⟩
   obtain rfl:w1=w':=hw'.symm
   cases hc:inE c with
   | false=>
    go_wp2
    go_ret
    exact⟨ret_b (by simp only[fitB,ha,hb,hc,Bool.true_and,Bool.false_and]),HB.out⟩
   | true=>
    go_wp2_with fail
    refine(HI.out d w1).mono ?_
    rintro e w' ⟨rfl,hw'⟩
    obtain rfl:w1=w':=hw'.symm
    cases hd:inE d with
    | false=>
     go_wp2
     go_ret
     exact⟨ret_b (by simp only[fitB,ha,hb,hc,hd,Bool.true_and,Bool.false_and]),HB.out⟩
    | true=>
     go_wp2
     go_ret
     exact⟨ret_b (by simp only[fitB,ha,hb,hc,hd,Bool.true_and]),HB.out⟩
theorem c_Det_bad (a b c d:Int) (w:World) (hf:fitB a b c d=false):Calls Tryz.prog 57 #[.agg #[.int .i64 a,.int .i64 b,.int .i64 c,.int .i64 d]] w fun e w'=>e=.returned (.tuple #[.int .i64 0,.int .i64 2])∧Below w.heap.size w w':=by
 have HF:=Kh (fun w1=>show Calls Tryz.prog 98 #[.agg #[.int .i64 a,.int .i64 b,.int .i64 c,.int .i64 d]] w1 fun e w'=>e=.returned (.bool false)∧Below w1.heap.size w1 w' from by
  have h:=c_fitB a b c d w1
  rw[hf]at h
  exact h)
 clear hf
 go_enter Tryz.func57,Tryz.ntmps57
 go_wp2_with fail
 obtain⟨w0,hw0⟩:∃ w0,w.alloc (.cells #[.int .i64 a,.int .i64 b,.int .i64 c,.int .i64 d] 28)=w0:=⟨_,rfl⟩
 rw[hw0]
 have HB:=Kh (show Below w.heap.size w w0 from hw0▸(Below.refl _ _).alloc (Nat.le_refl _) _)
 clear hw0
 refine(HF.out w0).mono ?_
 rintro e w1 ⟨rfl,hb1⟩
 have HB1:=bt HB hb1
 clear hb1
 go_wp2
 go_ret2
 exact⟨rfl,HB1.out⟩
theorem c_Apply_fit (a b c d p q:Int) (w:World) (hf:fitB a b c d=false):Calls Tryz.prog 31 #[.agg #[.int .i64 a,.int .i64 b,.int .i64 c,.int .i64 d],.agg #[.int .i64 p,.int .i64 q]] w fun e w'=>e=.returned (.tuple #[.agg #[.int .i64 0,.int .i64 0],.int .i64 2])∧Below w.heap.size w w':=by
 have HD:=Kh (fun w1=>show Calls Tryz.prog 57 #[.agg #[.int .i64 a,.int .i64 b,.int .i64 c,.int .i64 d]] w1 fun e w'=>e=.returned (.tuple #[.int .i64 0,.int .i64 2])∧Below w1.heap.size w1 w' from by
  exact c_Det_bad a b c d w1 hf)
 go_enter Tryz.func31,Tryz.ntmps31
 go_wp2_with fail
 obtain⟨w0,hw0,X0,X1,X2,hb0⟩:=bx3 w #[.int .i64 a,.int .i64 b,.int .i64 c,.int .i64 d] 28 #[.int .i64 p,.int .i64 q] 24 #[.int .i64 0,.int .i64 0] 24
 rw[hw0]
 refine(HD.out w0).mono ?_
 rintro e w1 ⟨rfl,hb1⟩
 have X3:=X2.below_ hb1 X2.lt
 have HX:=Kh X3
 have HB1:=Kh (hb0.trans (hb1.mono hb0.size))
 have c0:=X3.at_ 0 rfl
 have c1:=X3.at_ 1 rfl
 have f0:=X3.free_ 0
 have f1:=X3.free_ 1
 clear hw0 X0 X1 X2 hb0 hb1 X3
 go_wp2
 have X4:=(HX.out.set_ 0 (.int .i64 0)).set_ 1 (.int .i64 0)
 have e0:=X4.at_ 0 rfl
 have e1:=X4.at_ 1 rfl
 have e2:=(HX.out.set_ 0 (.int .i64 0)).at_ 0 rfl
 try simp only[Exit.inBlock,Exit.then]
 refine bodyPost_ret (by simp[results,Tryz.results31,go_sem,e0,e1,e2];try rfl) rfl ?_
 exact⟨rfl,(HB1.out.setCell (p:=⟨w.heap.size+1+1,0,none⟩) (by show w.heap.size≤w.heap.size+1+1;omega) _).setCell (p:=⟨w.heap.size+1+1,1,none⟩) (by show w.heap.size≤w.heap.size+1+1;omega) _⟩
theorem c_Apply_sing (a b c d p q:Int) (w:World) (ha:-1073741824≤a) (ha':a≤1073741824) (hb:-1073741824≤b) (hb':b≤1073741824) (hc:-1073741824≤c) (hc':c≤1073741824) (hd:-1073741824≤d) (hd':d≤1073741824) (h0:a*d - b*c=0):Calls Tryz.prog 31 #[.agg #[.int .i64 a,.int .i64 b,.int .i64 c,.int .i64 d],.agg #[.int .i64 p,.int .i64 q]] w fun e w'=>e=.returned (.tuple #[.agg #[.int .i64 0,.int .i64 0],.int .i64 11])∧Below w.heap.size w w':=by
 have HD:=Kh (fun w1=>show Calls Tryz.prog 57 #[.agg #[.int .i64 a,.int .i64 b,.int .i64 c,.int .i64 d]] w1 fun e w'=>e=.returned (.tuple #[.int .i64 0,.int .i64 0])∧Below w1.heap.size w1 w' from by
  have h:=c_Det a b c d w1 ha ha' hb hb' hc hc' hd hd'
  rw[h0]at h
  exact h)
 go_enter Tryz.func31,Tryz.ntmps31
 go_wp2_with fail
 obtain⟨w0,hw0,X0,X1,X2,hb0⟩:=bx3 w #[.int .i64 a,.int .i64 b,.int .i64 c,.int .i64 d] 28 #[.int .i64 p,.int .i64 q] 24 #[.int .i64 0,.int .i64 0] 24
 rw[hw0]
 refine(HD.out w0).mono ?_
 rintro e w1 ⟨rfl,hb1⟩
 have X3:=X2.below_ hb1 X2.lt
 have HX:=Kh X3
 have HB1:=Kh (hb0.trans (hb1.mono hb0.size))
 have c0:=X3.at_ 0 rfl
 have c1:=X3.at_ 1 rfl
 have f0:=X3.free_ 0
 have f1:=X3.free_ 1
 clear hw0 X0 X1 X2 hb0 hb1 X3
 go_wp2
 have X4:=(HX.out.set_ 0 (.int .i64 0)).set_ 1 (.int .i64 0)
 have e0:=X4.at_ 0 rfl
 have e1:=X4.at_ 1 rfl
 have e2:=(HX.out.set_ 0 (.int .i64 0)).at_ 0 rfl
 try simp only[Exit.inBlock,Exit.then]
 refine bodyPost_ret (by simp[results,Tryz.results31,go_sem,e0,e1,e2];try rfl) rfl ?_
 exact⟨rfl,(HB1.out.setCell (p:=⟨w.heap.size+1+1,0,none⟩) (by show w.heap.size≤w.heap.size+1+1;omega) _).setCell (p:=⟨w.heap.size+1+1,1,none⟩) (by show w.heap.size≤w.heap.size+1+1;omega) _⟩
theorem c_Translate_shape (vp:Option Addr) (n vc:Nat) (a b c d p q p' q':Int) (w:World) (hn:n=0∨23<n):
  Calls Tryz.prog 10 #[.agg #[.slice vp n vc,.int .i64 p,.int .i64 q,.int .i64 p',.int .i64 q'],.agg #[.int .i64 a,.int .i64 b,.int .i64 c,.int .i64 d]] w fun e w'=>e=.returned (.tuple #[.agg #[.slice none 0 0,.int .i64 0,.int .i64 0,.int .i64 0,.int .i64 0],.int .i64 4])∧Below w.heap.size w w':=by
 rcases hn with rfl|hn
 ·have h1:((0:Nat):Int)<1:=by decide
  go_enter Tryz.func10,Tryz.ntmps10
  go_wp2
  try simp only[Exit.inBlock,Exit.then]
  refine bodyPost_ret (by simp[results,Tryz.results10,go_sem];try rfl) rfl ?_
  exact⟨rfl,(((Below.refl _ w).alloc (Nat.le_refl _) _).alloc (by simp) _).alloc (by simp;omega) _⟩
 ·have h1:¬ ((n:Int)<1):=by omega
  have h2:(23:Int)<(n:Int):=by omega
  clear hn
  go_enter Tryz.func10,Tryz.ntmps10
  go_wp2
  try simp only[Exit.inBlock,Exit.then]
  refine bodyPost_ret (by simp[results,Tryz.results10,go_sem];try rfl) rfl ?_
  exact⟨rfl,(((Below.refl _ w).alloc (Nat.le_refl _) _).alloc (by simp) _).alloc (by simp;omega) _⟩
theorem c_Translate_err (vp:Option Addr) (n vc:Nat) (a b c d p q p' q' er:Int) (w:World) (hn0:0<n) (hn:n≤23) (her:er≠0)
  (hA:∀ w1,Calls Tryz.prog 31 #[.agg #[.int .i64 a,.int .i64 b,.int .i64 c,.int .i64 d],.agg #[.int .i64 p,.int .i64 q]] w1 fun e w'=>e=.returned (.tuple #[.agg #[.int .i64 0,.int .i64 0],.int .i64 er])∧Below w1.heap.size w1 w'):
  Calls Tryz.prog 10 #[.agg #[.slice vp n vc,.int .i64 p,.int .i64 q,.int .i64 p',.int .i64 q'],.agg #[.int .i64 a,.int .i64 b,.int .i64 c,.int .i64 d]] w fun e w'=>e=.returned (.tuple #[.agg #[.slice none 0 0,.int .i64 0,.int .i64 0,.int .i64 0,.int .i64 0],.int .i64 er])∧Below w.heap.size w w':=by
 have HA:=Kh hA
 have h1:¬ ((n:Int)<1):=by omega
 have h2:¬ ((23:Int)<(n:Int)):=by omega
 have hne:(er != 0)=true:=by rw[bne_iff_ne];exact her
 clear hA
 go_enter Tryz.func10,Tryz.ntmps10
 go_wp2_with fail
 obtain⟨w0,hw0,X0,X1,X2,hb0⟩:=bx3 w #[.slice vp n vc,.int .i64 p,.int .i64 q,.int .i64 p',.int .i64 q'] 26 #[.int .i64 a,.int .i64 b,.int .i64 c,.int .i64 d] 28 #[.slice none 0 0,.int .i64 0,.int .i64 0,.int .i64 0,.int .i64 0] 26
 rw[hw0]
 refine(HA.out w0).mono ?_
 rintro e w1 ⟨rfl,hb1⟩
 have X3:=X2.below_ hb1 X2.lt
 have HB1:=Kh (hb0.trans (hb1.mono hb0.size))
 have HX:=Kh (X3.alloc_ (.cells #[.int .i64 0,.int .i64 0] 24))
 have HB2:=Kh (HB1.out.alloc HB1.out.size (.cells #[.int .i64 0,.int .i64 0] 24))
 have c0:=HX.out.at_ 0 rfl
 have c1:=HX.out.at_ 1 rfl
 have c2:=HX.out.at_ 2 rfl
 have c3:=HX.out.at_ 3 rfl
 have c4:=HX.out.at_ 4 rfl
 have f0:=HX.out.free_ 0
 have f1:=HX.out.free_ 1
 have f2:=HX.out.free_ 2
 have f3:=HX.out.free_ 3
 have f4:=HX.out.free_ 4
 clear hw0 X0 X1 X2 hb0 hb1 X3
 go_wp2
 have X5:=((((HX.out.set_ 0 (.slice none 0 0)).set_ 1 (.int .i64 0)).set_ 2 (.int .i64 0)).set_ 3 (.int .i64 0)).set_ 4 (.int .i64 0)
 have e0:=X5.at_ 0 rfl
 have e1:=X5.at_ 1 rfl
 have e2:=X5.at_ 2 rfl
 have e3:=X5.at_ 3 rfl
 have e4:=X5.at_ 4 rfl
 have q0:=(HX.out.set_ 0 (.slice none 0 0)).at_ 0 rfl
 have q1:=((HX.out.set_ 0 (.slice none 0 0)).set_ 1 (.int .i64 0)).at_ 1 rfl
 have q2:=(((HX.out.set_ 0 (.slice none 0 0)).set_ 1 (.int .i64 0)).set_ 2 (.int .i64 0)).at_ 2 rfl
 have q3:=((((HX.out.set_ 0 (.slice none 0 0)).set_ 1 (.int .i64 0)).set_ 2 (.int .i64 0)).set_ 3 (.int .i64 0)).at_ 3 rfl
 try simp only[Exit.inBlock,Exit.then]
 refine bodyPost_ret (by simp[results,Tryz.results10,go_sem,e0,e1,e2,e3,e4,q0,q1,q2,q3];try rfl) rfl ?_
 have hge:w.heap.size≤w.heap.size+1+1:=by omega
 exact⟨rfl,((((HB2.out.setCell (p:=⟨w.heap.size+1+1,0,none⟩) hge _).setCell (p:=⟨w.heap.size+1+1,1,none⟩) hge _).setCell (p:=⟨w.heap.size+1+1,2,none⟩) hge _).setCell (p:=⟨w.heap.size+1+1,3,none⟩) hge _).setCell (p:=⟨w.heap.size+1+1,4,none⟩) hge _⟩
theorem c_fitB18 (a b c d:Int) (w:World):Calls Tryz.prog 100 #[.agg #[.int .i64 a,.int .i64 b,.int .i64 c,.int .i64 d]] w fun e w'=>e=.returned (.bool (fitB a b c d))∧Below w.heap.size w w':=by
 have HI:=Kh c_in18
 go_enter Tryz.func100,Tryz.ntmps100
 go_wp2_with fail
 obtain⟨w1,hw1⟩:∃ w1,w.alloc (.cells #[.int .i64 a,.int .i64 b,.int .i64 c,.int .i64 d] 28)=w1:=⟨_,rfl⟩
 have X:=Blk.new w 28 #[.int .i64 a,.int .i64 b,.int .i64 c,.int .i64 d]
 rw[hw1]at X ⊢
 have HB:=Kh (show Below w.heap.size w w1 from hw1▸(Below.refl _ _).alloc (Nat.le_refl _) _)
 have x0:=X.at_ 0 rfl
 have x1:=X.at_ 1 rfl
 have x2:=X.at_ 2 rfl
 have x3:=X.at_ 3 rfl
 clear hw1 X
 refine(HI.out a w1).mono ?_
 rintro e w' ⟨rfl,hw'⟩
 obtain rfl:w1=w':=hw'.symm
 cases ha:inE a with
 | false=>
  go_wp2
  go_ret
  exact⟨ret_b (by simp only[fitB,ha,Bool.true_and,Bool.false_and]),HB.out⟩
 | true=>
  go_wp2_with fail
  refine(HI.out b w1).mono ?_
  rintro e w' ⟨rfl,hw'⟩
  obtain rfl:w1=w':=hw'.symm
  cases hb:inE b with
  | false=>
   go_wp2
   go_ret
   exact⟨ret_b (by simp only[fitB,ha,hb,Bool.true_and,Bool.false_and]),HB.out⟩
  | true=>
   go_wp2_with fail
   refine(HI.out c w1).mono ?_
   rintro e w' ⟨rfl,hw'⟩
   obtain rfl:w1=w':=hw'.symm
   cases hc:inE c with
   | false=>
    go_wp2
    go_ret
    exact⟨ret_b (by simp only[fitB,ha,hb,hc,Bool.true_and,Bool.false_and]),HB.out⟩
   | true=>
    go_wp2_with fail
    refine(HI.out d w1).mono ?_
    rintro e w' ⟨rfl,hw'⟩
    obtain rfl:w1=w':=hw'.symm
    cases hd:inE d with
    | false=>
     go_wp2
     go_ret
     exact⟨ret_b (by simp only[fitB,ha,hb,hc,hd,Bool.true_and,Bool.false_and]),HB.out⟩
    | true=>
     go_wp2
     go_ret
     exact⟨ret_b (by simp only[fitB,ha,hb,hc,hd,Bool.true_and]),HB.out⟩
theorem c_Det_bad18 (a b c d:Int) (w:World) (hf:fitB a b c d=false):Calls Tryz.prog 64 #[.agg #[.int .i64 a,.int .i64 b,.int .i64 c,.int .i64 d]] w fun e w'=>e=.returned (.tuple #[.int .i64 0,.int .i64 2])∧Below w.heap.size w w':=by
 have HF:=Kh (fun w1=>show Calls Tryz.prog 100 #[.agg #[.int .i64 a,.int .i64 b,.int .i64 c,.int .i64 d]] w1 fun e w'=>e=.returned (.bool false)∧Below w1.heap.size w1 w' from by
  have h:=c_fitB18 a b c d w1
  rw[hf]at h
  exact h)
 clear hf
 go_enter Tryz.func64,Tryz.ntmps64
 go_wp2_with fail
 obtain⟨w0,hw0⟩:∃ w0,w.alloc (.cells #[.int .i64 a,.int .i64 b,.int .i64 c,.int .i64 d] 28)=w0:=⟨_,rfl⟩
 rw[hw0]
 have HB:=Kh (show Below w.heap.size w w0 from hw0▸(Below.refl _ _).alloc (Nat.le_refl _) _)
 clear hw0
 refine(HF.out w0).mono ?_
 rintro e w1 ⟨rfl,hb1⟩
 have HB1:=bt HB hb1
 clear hb1
 go_wp2
 go_ret2
 exact⟨rfl,HB1.out⟩
theorem c_Apply_fit18 (a b c d p q:Int) (w:World) (hf:fitB a b c d=false):Calls Tryz.prog 34 #[.agg #[.int .i64 a,.int .i64 b,.int .i64 c,.int .i64 d],.agg #[.int .i64 p,.int .i64 q]] w fun e w'=>e=.returned (.tuple #[.agg #[.int .i64 0,.int .i64 0],.int .i64 2])∧Below w.heap.size w w':=by
 have HD:=Kh (fun w1=>show Calls Tryz.prog 64 #[.agg #[.int .i64 a,.int .i64 b,.int .i64 c,.int .i64 d]] w1 fun e w'=>e=.returned (.tuple #[.int .i64 0,.int .i64 2])∧Below w1.heap.size w1 w' from by
  exact c_Det_bad18 a b c d w1 hf)
 go_enter Tryz.func34,Tryz.ntmps34
 go_wp2_with fail
 obtain⟨w0,hw0,X0,X1,X2,hb0⟩:=bx3 w #[.int .i64 a,.int .i64 b,.int .i64 c,.int .i64 d] 28 #[.int .i64 p,.int .i64 q] 24 #[.int .i64 0,.int .i64 0] 24
 rw[hw0]
 refine(HD.out w0).mono ?_
 rintro e w1 ⟨rfl,hb1⟩
 have X3:=X2.below_ hb1 X2.lt
 have HX:=Kh X3
 have HB1:=Kh (hb0.trans (hb1.mono hb0.size))
 have c0:=X3.at_ 0 rfl
 have c1:=X3.at_ 1 rfl
 have f0:=X3.free_ 0
 have f1:=X3.free_ 1
 clear hw0 X0 X1 X2 hb0 hb1 X3
 go_wp2
 have X4:=(HX.out.set_ 0 (.int .i64 0)).set_ 1 (.int .i64 0)
 have e0:=X4.at_ 0 rfl
 have e1:=X4.at_ 1 rfl
 have e2:=(HX.out.set_ 0 (.int .i64 0)).at_ 0 rfl
 try simp only[Exit.inBlock,Exit.then]
 refine bodyPost_ret (by simp[results,Tryz.results34,go_sem,e0,e1,e2];try rfl) rfl ?_
 exact⟨rfl,(HB1.out.setCell (p:=⟨w.heap.size+1+1,0,none⟩) (by show w.heap.size≤w.heap.size+1+1;omega) _).setCell (p:=⟨w.heap.size+1+1,1,none⟩) (by show w.heap.size≤w.heap.size+1+1;omega) _⟩
theorem c_Apply_sing18 (a b c d p q:Int) (w:World) (ha:-1073741824≤a) (ha':a≤1073741824) (hb:-1073741824≤b) (hb':b≤1073741824) (hc:-1073741824≤c) (hc':c≤1073741824) (hd:-1073741824≤d) (hd':d≤1073741824) (h0:a*d - b*c=0):Calls Tryz.prog 34 #[.agg #[.int .i64 a,.int .i64 b,.int .i64 c,.int .i64 d],.agg #[.int .i64 p,.int .i64 q]] w fun e w'=>e=.returned (.tuple #[.agg #[.int .i64 0,.int .i64 0],.int .i64 11])∧Below w.heap.size w w':=by
 have HD:=Kh (fun w1=>show Calls Tryz.prog 64 #[.agg #[.int .i64 a,.int .i64 b,.int .i64 c,.int .i64 d]] w1 fun e w'=>e=.returned (.tuple #[.int .i64 0,.int .i64 0])∧Below w1.heap.size w1 w' from by
  have h:=c_Det18 a b c d w1 ha ha' hb hb' hc hc' hd hd'
  rw[h0]at h
  exact h)
 go_enter Tryz.func34,Tryz.ntmps34
 go_wp2_with fail
 obtain⟨w0,hw0,X0,X1,X2,hb0⟩:=bx3 w #[.int .i64 a,.int .i64 b,.int .i64 c,.int .i64 d] 28 #[.int .i64 p,.int .i64 q] 24 #[.int .i64 0,.int .i64 0] 24
 rw[hw0]
 refine(HD.out w0).mono ?_
 rintro e w1 ⟨rfl,hb1⟩
 have X3:=X2.below_ hb1 X2.lt
 have HX:=Kh X3
 have HB1:=Kh (hb0.trans (hb1.mono hb0.size))
 have c0:=X3.at_ 0 rfl
 have c1:=X3.at_ 1 rfl
 have f0:=X3.free_ 0
 have f1:=X3.free_ 1
 clear hw0 X0 X1 X2 hb0 hb1 X3
 go_wp2
 have X4:=(HX.out.set_ 0 (.int .i64 0)).set_ 1 (.int .i64 0)
 have e0:=X4.at_ 0 rfl
 have e1:=X4.at_ 1 rfl
 have e2:=(HX.out.set_ 0 (.int .i64 0)).at_ 0 rfl
 try simp only[Exit.inBlock,Exit.then]
 refine bodyPost_ret (by simp[results,Tryz.results34,go_sem,e0,e1,e2];try rfl) rfl ?_
 exact⟨rfl,(HB1.out.setCell (p:=⟨w.heap.size+1+1,0,none⟩) (by show w.heap.size≤w.heap.size+1+1;omega) _).setCell (p:=⟨w.heap.size+1+1,1,none⟩) (by show w.heap.size≤w.heap.size+1+1;omega) _⟩
theorem c_Translate_shape18 (vp:Option Addr) (n vc:Nat) (a b c d p q p' q':Int) (w:World) (hn:n=0∨23<n):
  Calls Tryz.prog 12 #[.agg #[.slice vp n vc,.int .i64 p,.int .i64 q,.int .i64 p',.int .i64 q'],.agg #[.int .i64 a,.int .i64 b,.int .i64 c,.int .i64 d]] w fun e w'=>e=.returned (.tuple #[.agg #[.slice none 0 0,.int .i64 0,.int .i64 0,.int .i64 0,.int .i64 0],.int .i64 4])∧Below w.heap.size w w':=by
 rcases hn with rfl|hn
 ·have h1:((0:Nat):Int)<1:=by decide
  go_enter Tryz.func12,Tryz.ntmps12
  go_wp2
  try simp only[Exit.inBlock,Exit.then]
  refine bodyPost_ret (by simp[results,Tryz.results12,go_sem];try rfl) rfl ?_
  exact⟨rfl,(((Below.refl _ w).alloc (Nat.le_refl _) _).alloc (by simp) _).alloc (by simp;omega) _⟩
 ·have h1:¬ ((n:Int)<1):=by omega
  have h2:(23:Int)<(n:Int):=by omega
  clear hn
  go_enter Tryz.func12,Tryz.ntmps12
  go_wp2
  try simp only[Exit.inBlock,Exit.then]
  refine bodyPost_ret (by simp[results,Tryz.results12,go_sem];try rfl) rfl ?_
  exact⟨rfl,(((Below.refl _ w).alloc (Nat.le_refl _) _).alloc (by simp) _).alloc (by simp;omega) _⟩
theorem c_Translate_err18 (vp:Option Addr) (n vc:Nat) (a b c d p q p' q' er:Int) (w:World) (hn0:0<n) (hn:n≤23) (her:er≠0)
  (hA:∀ w1,Calls Tryz.prog 34 #[.agg #[.int .i64 a,.int .i64 b,.int .i64 c,.int .i64 d],.agg #[.int .i64 p,.int .i64 q]] w1 fun e w'=>e=.returned (.tuple #[.agg #[.int .i64 0,.int .i64 0],.int .i64 er])∧Below w1.heap.size w1 w'):
  Calls Tryz.prog 12 #[.agg #[.slice vp n vc,.int .i64 p,.int .i64 q,.int .i64 p',.int .i64 q'],.agg #[.int .i64 a,.int .i64 b,.int .i64 c,.int .i64 d]] w fun e w'=>e=.returned (.tuple #[.agg #[.slice none 0 0,.int .i64 0,.int .i64 0,.int .i64 0,.int .i64 0],.int .i64 er])∧Below w.heap.size w w':=by
 have HA:=Kh hA
 have h1:¬ ((n:Int)<1):=by omega
 have h2:¬ ((23:Int)<(n:Int)):=by omega
 have hne:(er != 0)=true:=by rw[bne_iff_ne];exact her
 clear hA
 go_enter Tryz.func12,Tryz.ntmps12
 go_wp2_with fail
 obtain⟨w0,hw0,X0,X1,X2,hb0⟩:=bx3 w #[.slice vp n vc,.int .i64 p,.int .i64 q,.int .i64 p',.int .i64 q'] 26 #[.int .i64 a,.int .i64 b,.int .i64 c,.int .i64 d] 28 #[.slice none 0 0,.int .i64 0,.int .i64 0,.int .i64 0,.int .i64 0] 26
 rw[hw0]
 refine(HA.out w0).mono ?_
 rintro e w1 ⟨rfl,hb1⟩
 have X3:=X2.below_ hb1 X2.lt
 have HB1:=Kh (hb0.trans (hb1.mono hb0.size))
 have HX:=Kh (X3.alloc_ (.cells #[.int .i64 0,.int .i64 0] 24))
 have HB2:=Kh (HB1.out.alloc HB1.out.size (.cells #[.int .i64 0,.int .i64 0] 24))
 have c0:=HX.out.at_ 0 rfl
 have c1:=HX.out.at_ 1 rfl
 have c2:=HX.out.at_ 2 rfl
 have c3:=HX.out.at_ 3 rfl
 have c4:=HX.out.at_ 4 rfl
 have f0:=HX.out.free_ 0
 have f1:=HX.out.free_ 1
 have f2:=HX.out.free_ 2
 have f3:=HX.out.free_ 3
 have f4:=HX.out.free_ 4
 clear hw0 X0 X1 X2 hb0 hb1 X3
 go_wp2
 have X5:=((((HX.out.set_ 0 (.slice none 0 0)).set_ 1 (.int .i64 0)).set_ 2 (.int .i64 0)).set_ 3 (.int .i64 0)).set_ 4 (.int .i64 0)
 have e0:=X5.at_ 0 rfl
 have e1:=X5.at_ 1 rfl
 have e2:=X5.at_ 2 rfl
 have e3:=X5.at_ 3 rfl
 have e4:=X5.at_ 4 rfl
 have q0:=(HX.out.set_ 0 (.slice none 0 0)).at_ 0 rfl
 have q1:=((HX.out.set_ 0 (.slice none 0 0)).set_ 1 (.int .i64 0)).at_ 1 rfl
 have q2:=(((HX.out.set_ 0 (.slice none 0 0)).set_ 1 (.int .i64 0)).set_ 2 (.int .i64 0)).at_ 2 rfl
 have q3:=((((HX.out.set_ 0 (.slice none 0 0)).set_ 1 (.int .i64 0)).set_ 2 (.int .i64 0)).set_ 3 (.int .i64 0)).at_ 3 rfl
 try simp only[Exit.inBlock,Exit.then]
 refine bodyPost_ret (by simp[results,Tryz.results12,go_sem,e0,e1,e2,e3,e4,q0,q1,q2,q3];try rfl) rfl ?_
 have hge:w.heap.size≤w.heap.size+1+1:=by omega
 exact⟨rfl,((((HB2.out.setCell (p:=⟨w.heap.size+1+1,0,none⟩) hge _).setCell (p:=⟨w.heap.size+1+1,1,none⟩) hge _).setCell (p:=⟨w.heap.size+1+1,2,none⟩) hge _).setCell (p:=⟨w.heap.size+1+1,3,none⟩) hge _).setCell (p:=⟨w.heap.size+1+1,4,none⟩) hge _⟩
end Go.Proofs.YtijgdhijdfgpfaaGreatDoor
namespace Go.Proofs.YtijgdhijdfgpfaaGreatDoor
open Go.RowKit Eli
theorem QRow.cellOf {F:Nat→FP} {w:World} {g N:Nat} (h:QRow F w g N N) {i:Nat} (hi:i<N*4):w.cell? ⟨g,i,none⟩=some (cellOf w ⟨g,i,none⟩):=by
 obtain⟨u,hu⟩:=Option.isSome_iff_exists.1 (h.has i hi)
 rw[hu,cellOf_eq hu]
theorem QRow.shape {F:Nat→FP} {w:World} {g N:Nat} (h:QRow F w g N N) {u:Value} (hu:u∈rowCells w g (N*4)):(∃ s,u=.bool s)∨∃ p n c,u=.slice p n c:=by
 obtain⟨i,hj⟩:=List.getElem?_of_mem hu
 have hi:=rowCells_lt hj
 rw[rowCells_get hi]at hj
 injection hj with hj
 subst hj
 obtain⟨s,p,n,c,t,q,m,d,e0,e1,e2,e3,_⟩:=h.val (i / 4) (by omega)
 rcases(by omega:i % 4=0∨i % 4=1∨i % 4=2∨i % 4=3)with h4|h4|h4|h4
 ·rw[show i / 4*4=i by omega]at e0
  exact .inl ⟨s,cellOf_eq e0⟩
 ·rw[show i / 4*4+1=i by omega]at e1
  exact .inr ⟨p,n,c,cellOf_eq e1⟩
 ·rw[show i / 4*4+2=i by omega]at e2
  exact .inl ⟨t,cellOf_eq e2⟩
 ·rw[show i / 4*4+3=i by omega]at e3
  exact .inr ⟨q,m,d,cellOf_eq e3⟩
theorem QRow.one {F:Nat→FP} {w:World} {g N:Nat} (h:QRow F w g N N):∀ u∈rowCells w g (N*4),u.oneCell'=true:=by
 intro u hu
 rcases h.shape hu with⟨s,rfl⟩ |⟨p,n,c,rfl⟩ <;> rfl
theorem QRow.cells {F:Nat→FP} {w:World} {g N:Nat} (h:QRow F w g N N):∀ (j:Nat) (u:Value),(rowCells w g (N*4))[j]?=some u→w.cell? ⟨g,j,none⟩=some u:=by
 intro j u hj
 have hl:=rowCells_lt hj
 rw[rowCells_get hl]at hj
 rw[h.cellOf hl,hj]
theorem OwnQ.more {F R:Nat→FP} (hF:∀ j,Solid (F j)) {W w':World} {B n m g:Nat} {v v':Value} {xs:List Value} (h1:OwnK NotInt W B 67 4 v n xs) (h2:∀ j,j<n→QX (F j) W xs (j*4))
  (hr:QRow R W g m m) (h3:OwnK NotInt w' B 67 4 v' (n+m) (xs++rowCells W g (m*4))) (hg:W.grownBy w' v.ownBlock) (e2:∀ j,j<m→F (n+j)=R j):OwnQ F w' B v' (n+m):=by
 have h32:=I32.grown (K:=NotInt) (fun x=>not_int32 x) h1.2 hg
 refine⟨_,h3,fun j hj=>?_⟩
 by_cases hjn:j<n
 ·exact((h2 j hjn).i32 (hF j) h32).app
 ·obtain⟨k,rfl⟩:∃ k,j=n+k:=⟨j - n,by omega⟩
  have hk:k<m:=by omega
  have hl:xs.length=n*4:=h1.1.1
  obtain⟨s,p,c,d,t,q,e,f,c0,c1,c2,c3,hz⟩:=hr.val k hk
  rw[← e2 k hk]at hz
  refine⟨s,p,c,d,t,q,e,f,?_,?_,?_,?_,hF _ _ _ _ _ _ _ _ _ _ _ h32 hz⟩
  ·rw[List.getElem?_append_right (by omega),hl,show(n+k)*4 - n*4=k*4 by omega,rowCells_get (by omega),cellOf_eq c0]
  ·rw[List.getElem?_append_right (by omega),hl,show(n+k)*4+1 - n*4=k*4+1 by omega,rowCells_get (by omega),cellOf_eq c1]
  ·rw[List.getElem?_append_right (by omega),hl,show(n+k)*4+2 - n*4=k*4+2 by omega,rowCells_get (by omega),cellOf_eq c2]
  ·rw[List.getElem?_append_right (by omega),hl,show(n+k)*4+3 - n*4=k*4+3 by omega,rowCells_get (by omega),cellOf_eq c3]
structure MatAt (F:Nat→FP) (w:World) (go B R C m:Nat):Prop where
 lt:go<B
 hB:B≤w.heap.size
 c0:w.cell? ⟨go,0,none⟩=some (.int .i64 (R:Int))
 c1:w.cell? ⟨go,1,none⟩=some (.int .i64 (C:Int))
 c2:∃ p c,w.cell? ⟨go,2,none⟩=some (.slice p m c)∧OwnQ F w B (.slice p m c) m
 fr:w.frozen? ⟨go,2,none⟩=false
 stk:Stk NotU32 w go
theorem MatAt.keep {F:Nat→FP} (hF:∀ j,Solid (F j)) {w w':World} {go B R C m:Nat} (h:MatAt F w go B R C m) (hb:Below w.heap.size w w'):MatAt F w' go B R C m:=by
 obtain⟨p,c,e2,h2⟩:=h.c2
 exact⟨h.lt,Nat.le_trans h.hB hb.size,cell_next hb h.c0,cell_next hb h.c1,⟨p,c,cell_next hb e2,h2.keep hF hb⟩,frozen_keep hb (by rw[e2];rfl) h.fr,h.stk.next hb⟩
theorem OwnQ.box {F:Nat→FP} (hF:∀ j,Solid (F j)) {w w':World} {B n G:Nat} {v:Value} (h:OwnQ F w B v n) (h32:I32 w w') (hg:w.grownBy w' (some G)) (hG:G<B):OwnQ F w' B v n:=by
 obtain⟨xs,h1,h2⟩:=h
 have hne:∀ g,v.ownBlock=some g→some g≠some G:=fun g e e2=>by
  have:=own_ge h1.1 e.symm
  injection e2 with e2;omega
 refine⟨xs,⟨h1.1.kept hg ?_,fun g e=>?_⟩,fun j hj=>(h2 j hj).i32 (hF j) h32⟩
 ·cases hv:v.ownBlock with
  | none=>exact .inl rfl
  | some g=>exact .inr (hne g hv)
 ·have hs:=h1.2 g e
  have hb:=hg.block g hs.1 (hne g e)
  exact⟨Nat.lt_of_lt_of_le hs.1 hg.size,fun i u hu=>hs.2 i u ((World.cell?_of_block (a:=⟨g,i,none⟩) hb).symm.trans hu)⟩
theorem MatAt.more {F:Nat→FP} (hF:∀ j,Solid (F j)) {W w':World} {go B R C m n:Nat} {xs:List Value} {p:Option Addr} {c:Nat} {p':Option Addr} {c':Nat} (h:MatAt F W go B R C m) (hv:W.cell? ⟨go,2,none⟩=some (.slice p m c)) (h1:W.ownsRow B 67 4 (.slice p m c) m xs) (hO:OwnQ F w' B (.slice p' n c') n) (hg:W.grownBy w' (Value.slice p m c).ownBlock):
  w'.cell? ⟨go,2,none⟩=some (.slice p m c)∧w'.frozen? ⟨go,2,none⟩=false∧MatAt F (w'.setCell ⟨go,2,none⟩ (.slice p' n c')) go B R C n:=by
 have hne:some go≠(Value.slice p m c).ownBlock:=fun e=>by
  have:=own_ge h1 e
  have:=h.lt
  omega
 have hgo:go<W.heap.size:=Nat.lt_of_lt_of_le h.lt h.hB
 have hblk:=hg.block go hgo (fun e=>hne e)
 have d2:w'.cell? ⟨go,2,none⟩=some (.slice p m c):=(World.cell?_of_block (a:=⟨go,2,none⟩) hblk).trans hv
 have df:w'.frozen? ⟨go,2,none⟩=false:=(World.frozen?_of_block (a:=⟨go,2,none⟩) hblk).trans h.fr
 have hst:Stk NotU32 w' go:=⟨Nat.lt_of_lt_of_le hgo hg.size,fun i u hu=>h.stk.2 i u ((World.cell?_of_block (a:=⟨go,i,none⟩) hblk).symm.trans hu)⟩
 refine⟨d2,df,h.lt,by simpa using Nat.le_trans h.hB hg.size,?_,?_,⟨p',c',World.cell?_setCell_same' _ _ _ (by rw[d2];rfl),hO.box hF (I32.putU hst 2 _) (but_put w' go 2 _) h.lt⟩,frozen_set df,stk_put hst _ _ (fun _ h=>by cases h)⟩
 ·rw[World.cell?_setCell_other _ _ _ _ (by simp)];exact(World.cell?_of_block (a:=⟨go,0,none⟩) hblk).trans h.c0
 ·rw[World.cell?_setCell_other _ _ _ _ (by simp)];exact(World.cell?_of_block (a:=⟨go,1,none⟩) hblk).trans h.c1
end Go.Proofs.YtijgdhijdfgpfaaGreatDoor
namespace Go.Proofs.YtijgdhijdfgpfaaGreatDoor
open Go.RowKit
def ShR (x y:Nat→Int) (w:World) (vp:Option Addr) (len:Nat) (e:Ending):Prop:=∃ b:Bool,e=.returned (.bool b)∧(b=true→len≤30∧Shorts x y w vp len)
theorem c_short42 (vp:Option Addr) (len vc:Nat) (x y:Nat→Int) (w:World) (h:∀ j,j<len→∃ g o,vp=some ⟨g,o,none⟩∧g<w.heap.size∧QE (IsA (x j) (y j)) w g (o+j*4)) (hl:len≤9223372036854775807):
  Calls Tryz.prog 9 #[.slice vp len vc] w fun e w'=>w'=w∧ShR x y w vp len e:=by
 have HA:=Kh h
 clear h
 go_enter Tryz.func9,Tryz.ntmps9
 go_wp2_with fail
 go_loopw [3] (fun ii wr=>∃ i:Nat,i≤len∧ii=.int .i64 i∧wr=w∧Shorts x y w vp i) (fun ii _=>len - (intOf ii).toNat)
 case atStart=>exact⟨0,Nat.zero_le _,rfl,rfl,fun j hj=>absurd hj (Nat.not_lt_zero _)⟩
 case round=>
  obtain⟨i,hi,rfl,hwr,hsh⟩:=hrel
  obtain rfl:w=wr:=hwr.symm
  have HSH:=Kh hsh
  clear hsh hwr
  by_cases hlt:i<len
  ·obtain⟨g,o,rfl,hg,he⟩:=HA.out i hlt
   obtain⟨s',p1,n1,c1,t1,q1,m1,d1,a0,a1,a2,a3,hx⟩:=he
   have HXE:=Kh hx
   have hii:(i:Int)<(len:Int):=by omega
   clear hx
   by_cases hn1:4<n1
   ·have hn1i:(n1:Int) > 4:=by omega
    have hn1d:decide ((n1:Int) > 4)=true:=decide_eq_true hn1i
    go_wp2
    go_ret
    exact⟨rfl,false,rfl,fun h=>by cases h⟩
   ·have hn1i:¬ (n1:Int) > 4:=by omega
    by_cases hm1:4<m1
    ·have hm1i:(m1:Int) > 4:=by omega
     go_wp2
     go_ret
     exact⟨rfl,false,rfl,fun h=>by cases h⟩
    ·have hm1i:¬ (m1:Int) > 4:=by omega
     have HS2:=Kh (show Shorts x y w (some ⟨g,o,none⟩) (i+1)from fun j hj=>by
      by_cases h:j<i
      ·exact HSH.out j h
      ·obtain rfl:j=i:=by omega
       exact⟨g,o,rfl,hg,s',p1,n1,c1,t1,q1,m1,d1,a0,a1,a2,a3,HXE.out.1,HXE.out.2,by omega,by omega⟩)
     go_wp2
     go_roundw
     case rel=>exact⟨i+1,by omega,by go_num,by first|rfl|trivial,HS2.out⟩
     case measure=>simp[intOf];omega
  ·obtain rfl:len=i:=by omega
   go_wp2
   go_ret
   exact⟨rfl,_,rfl,fun h=>⟨by have:=of_decide_eq_true h;omega,HSH.out⟩⟩
theorem c_twin (vp:Option Addr) (n vc:Nat) (x y:Nat→Int) (p q p' q':Int) (w:World) (h:QL (fun j=>IsR (x j) (y j)) w (.slice vp n vc) n) (hn:n≤1000):
  Calls Tryz.prog 11 #[.agg #[.slice vp n vc,.int .i64 p,.int .i64 q,.int .i64 p',.int .i64 q']] w fun e w'=>(∃ v c,e=.returned (.agg #[.slice v n c,.int .i64 p,.int .i64 q,.int .i64 p',.int .i64 q'])∧QL (fun j=>IsR (x j) (y j)) w' (.slice v n c) n)∧Below w.heap.size w w':=by
 have HQ:=Kh h
 clear h
 go_enter Tryz.func11,Tryz.ntmps11
 go_wp2_with fail
 obtain⟨w0,hw0,XA,XB,hb0⟩:=bx2 w #[.slice vp n vc,.int .i64 p,.int .i64 q,.int .i64 p',.int .i64 q'] 26 #[.slice none 0 0,.int .i64 0,.int .i64 0,.int .i64 0,.int .i64 0] 26
 rw[hw0]
 refine(c_CopyRats (.slice vp n vc) n x y w0 (HQ.out.keep (fun _=>IsR.solid _ _) hb0) (by omega)).mono ?_
 rintro e w1 ⟨⟨v',rfl,ho⟩,hb1⟩
 have XA1:=XA.below_ hb1 XA.lt
 have XB1:=XB.below_ hb1 XB.lt
 have hsl:=XB.lt
 obtain⟨p9,c9,rfl⟩:∃ p c,v'=.slice p n c:=by
  obtain⟨xs,h1,_⟩:=ho
  exact own_slice h1.1
 have hstA:Stk NotU32 w1 w.heap.size:=Stk.of XA1 (by intro v hv;simp at hv;rcases hv with rfl|rfl|rfl|rfl|rfl <;> exact fun _ h=>by cases h)
 have ho2:=ho.box (fun _=>IsR.solid _ _) (I32.putU hstA 0 (.slice p9 n c9)) (but_put w1 w.heap.size 0 (.slice p9 n c9)) (by omega)
 have XA2:=XA1.set_ 0 (.slice p9 n c9)
 have XB2:=XB1.far_ (p:=⟨w.heap.size,0,none⟩) (by dsimp only;omega) (.slice p9 n c9)
 have hb2:Below w.heap.size w (w1.setCell ⟨w.heap.size,0,none⟩ (.slice p9 n c9)):=(hb0.trans (hb1.mono hb0.size)).setCell (p:=⟨w.heap.size,0,none⟩) (Nat.le_refl _) _
 have c0:=XA1.at_ 0 rfl
 have f0:=XA1.free_ 0
 clear hw0 XA XB hb0 hb1 XA1 XB1 hstA ho
 go_upto_region 2 with(fail)
 obtain⟨w2,hw2⟩:∃ w2,w1.setCell ⟨w.heap.size,0,none⟩ (.slice p9 n c9)=w2:=⟨_,rfl⟩
 rw[hw2]at ho2 XA2 XB2 hb2 ⊢
 have a0:=XA2.at_ 0 rfl
 have a1:=XA2.at_ 1 rfl
 have a2:=XA2.at_ 2 rfl
 have a3:=XA2.at_ 3 rfl
 have a4:=XA2.at_ 4 rfl
 have b0:=XB2.at_ 0 rfl
 have b1:=XB2.at_ 1 rfl
 have b2:=XB2.at_ 2 rfl
 have b3:=XB2.at_ 3 rfl
 have b4:=XB2.at_ 4 rfl
 have g0:=XB2.free_ 0
 have g1:=XB2.free_ 1
 have g2:=XB2.free_ 2
 have g3:=XB2.free_ 3
 have g4:=XB2.free_ 4
 have hstB:Stk NotU32 w2 (w.heap.size+1):=Stk.of XB2 (by intro v hv;simp at hv;rcases hv with rfl|rfl|rfl|rfl|rfl <;> exact fun _ h=>by cases h)
 have HO:=Kh (ho2.box (fun _=>IsR.solid _ _) (I32.path hstB p9 n c9 p q p' q') (but_put5 w2 (w.heap.size+1) (.slice p9 n c9) (.int .i64 p) (.int .i64 q) (.int .i64 p') (.int .i64 q')) (by omega))
 have HX3:=Kh (((((XB2.set_ 0 (.slice p9 n c9)).set_ 1 (.int .i64 p)).set_ 2 (.int .i64 q)).set_ 3 (.int .i64 p')).set_ 4 (.int .i64 q'))
 have q0:=(XB2.set_ 0 (.slice p9 n c9)).at_ 0 rfl
 have q1:=((XB2.set_ 0 (.slice p9 n c9)).set_ 1 (.int .i64 p)).at_ 1 rfl
 have q2:=(((XB2.set_ 0 (.slice p9 n c9)).set_ 1 (.int .i64 p)).set_ 2 (.int .i64 q)).at_ 2 rfl
 have q3:=((((XB2.set_ 0 (.slice p9 n c9)).set_ 1 (.int .i64 p)).set_ 2 (.int .i64 q)).set_ 3 (.int .i64 p')).at_ 3 rfl
 have HQ0:=Kh q0
 have HQ1:=Kh q1
 have HQ2:=Kh q2
 have HQ3:=Kh q3
 have HB2:=Kh hb2
 clear XA2 XB2 ho2 hstB hw2 c0 f0 q0 q1 q2 q3 hb2
 go_wp2
 have e0:=HX3.out.at_ 0 rfl
 have e1:=HX3.out.at_ 1 rfl
 have e2:=HX3.out.at_ 2 rfl
 have e3:=HX3.out.at_ 3 rfl
 have e4:=HX3.out.at_ 4 rfl
 have q0:=HQ0.out
 have q1:=HQ1.out
 have q2:=HQ2.out
 have q3:=HQ3.out
 have hge:w.heap.size≤w.heap.size+1:=by omega
 try simp only[Exit.inBlock,Exit.then]
 refine bodyPost_ret (by simp[results,Tryz.results11,go_sem,e0,e1,e2,e3,e4,q0,q1,q2,q3];try rfl) rfl ?_
 exact⟨⟨p9,c9,rfl,HO.out.ql⟩,((((HB2.out.setCell (p:=⟨w.heap.size+1,0,none⟩) hge _).setCell (p:=⟨w.heap.size+1,1,none⟩) hge _).setCell (p:=⟨w.heap.size+1,2,none⟩) hge _).setCell (p:=⟨w.heap.size+1,3,none⟩) hge _).setCell (p:=⟨w.heap.size+1,4,none⟩) hge _⟩
theorem c_same42 (p1 p2:Option Addr) (n c1 c2:Nat) (f:Nat→Rat) (a b c d:Int) (w:World) (h1:QL (fun j=>IsQ (f j)) w (.slice p1 n c1) n) (h2:QL (fun j=>IsQ (f j)) w (.slice p2 n c2) n) (hn:n≤1000000) (hf:∀ j,j<n→hq (f j)≤35184372088830):
  Calls Tryz.prog 13 #[.agg #[.slice p1 n c1,.int .i64 a,.int .i64 b,.int .i64 c,.int .i64 d],.agg #[.slice p2 n c2,.int .i64 a,.int .i64 b,.int .i64 c,.int .i64 d]] w fun e w'=>e=.returned (.bool true)∧Below w.heap.size w w':=by
 have HS:=Kh (fun W (hb:Below w.heap.size w W)=>c_SameRats_eq (.slice p1 n c1) (.slice p2 n c2) n f W (h1.keep (fun _=>IsQ.solid _) hb) (h2.keep (fun _=>IsQ.solid _) hb) hn hf)
 clear h1 h2 hf
 go_enter Tryz.func13,Tryz.ntmps13
 go_wp2_with fail
 obtain⟨w0,hw0,XA,XB,hb0⟩:=bx2 w #[.slice p1 n c1,.int .i64 a,.int .i64 b,.int .i64 c,.int .i64 d] 26 #[.slice p2 n c2,.int .i64 a,.int .i64 b,.int .i64 c,.int .i64 d] 26
 rw[hw0]
 refine(HS.out w0 hb0).mono ?_
 rintro e w1 ⟨rfl,hb1⟩
 have XA1:=XA.below_ hb1 XA.lt
 have XB1:=XB.below_ hb1 XB.lt
 have a1:=XA1.at_ 1 rfl
 have a2:=XA1.at_ 2 rfl
 have a3:=XA1.at_ 3 rfl
 have a4:=XA1.at_ 4 rfl
 have b1:=XB1.at_ 1 rfl
 have b2:=XB1.at_ 2 rfl
 have b3:=XB1.at_ 3 rfl
 have b4:=XB1.at_ 4 rfl
 have HB1:=Kh (hb0.trans (hb1.mono hb0.size))
 clear hw0 XA XB hb0 hb1 XA1 XB1
 go_wp2
 go_ret
 exact⟨rfl,HB1.out⟩
end Go.Proofs.YtijgdhijdfgpfaaGreatDoor
