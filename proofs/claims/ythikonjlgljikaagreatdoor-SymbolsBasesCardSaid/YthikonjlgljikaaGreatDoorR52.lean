/- The law SymbolsBases, walked. -/
import Derived.Test.YthikonjlgljikaaGreatDoorR51
set_option linter.unusedSimpArgs false
set_option maxRecDepth 100000
set_option maxHeartbeats 8000000
namespace Go.Proofs.YthikonjlgljikaaGreatDoor
open Go.RowKit Eli
theorem c_lawBases_bad (N k D:Int) (w:World) (hT:Tab w) (hck:Pl.check N k D≠0):
  Calls Tryz.prog 5 #[.agg #[.int .i64 N,.int .i64 k,.int .i64 D]] w fun e w'=>e=.returned (.bool true)∧Below w.heap.size w w':=by
 have HLA:=Kh (fun W=>c_Large_bad N k D W hck)
 have HNE:=Kh (fun W=>c_New_check N k D W hck)
 have HRE:=Kh (fun W=>c_New41_bad N k D W hck)
 obtain⟨er,her⟩:∃ er,Pl.check N k D=er:=⟨_,rfl⟩
 rw[her]at hck HNE HRE
 have hne:(er != 0)=true:=by simpa using hck
 have HT:=Kh hT
 clear her hck hT
 go_enter Tryz.func5,Tryz.ntmps5
 go_wp2_with fail
 obtain⟨w0,hw0,X0,hb0⟩:=bx1 w #[.int .i64 N,.int .i64 k,.int .i64 D] 23
 rw[hw0]
 refine(c_awake w0 (HT.out.below hb0)).mono ?_
 rintro e w1 ⟨rfl,hb1⟩
 have X1:=X0.below_ hb1 X0.lt
 have HB1:=Kh (hb0.trans (hb1.mono hb0.size))
 have x0:=X1.at_ 0 rfl
 have x1:=X1.at_ 1 rfl
 have x2:=X1.at_ 2 rfl
 have HX1:=Kh X1
 clear hw0 X0 hb0 hb1 X1
 go_wp2_with fail
 refine(HLA.out w1).mono ?_
 rintro e w2 ⟨rfl,hb2⟩
 have X2:=bk HX1 hb2
 have HB2:=bt HB1 hb2
 clear x0 x1 x2 hb2
 have x0:=X2.at_ 0 rfl
 have x1:=X2.at_ 1 rfl
 have x2:=X2.at_ 2 rfl
 have HX2:=Kh X2
 clear X2 HX1
 go_wp2_with fail
 refine(HNE.out w2).mono ?_
 rintro e w3 ⟨rfl,hb3⟩
 have HB3:=bt HB2 hb3
 have X3:=bk HX2 hb3
 clear x0 x1 x2 hb3
 have x0:=X3.at_ 0 rfl
 have x1:=X3.at_ 1 rfl
 have x2:=X3.at_ 2 rfl
 clear X3 HX2
 go_wp2_with fail
 refine(HRE.out w3).mono ?_
 rintro e w4 ⟨rfl,hb4⟩
 have HB4:=bt HB3 hb4
 clear x0 x1 x2 hb4
 go_wp2
 go_ret
 exact⟨rfl,HB4.out.alloc HB4.out.size _⟩
theorem c_lawBases_ok (n wt:Nat) (D:Int) (w:World) (hT:Tab w) (hck:Pl.check n ((wt:Int)+2) D=0):
  Calls Tryz.prog 5 #[.agg #[.int .i64 n,.int .i64 ((wt:Int)+2),.int .i64 D]] w fun e w'=>e=.returned (.bool true)∧Below w.heap.size w w':=by
 obtain⟨h1,h2,h3,h4,h5,h6⟩:=check_zero hck
 have HLA:=Kh (fun W=>c_Large n wt D W hck)
 have HNW:=Kh (fun W (hb:Below w.heap.size w W) (hC:cntF n wt≤72)=>c_New n wt D W (hT.below hb) hck hC)
 have HRE:=Kh (fun W (hC:cntF n wt≤72)=>c_New41_ok n wt D W hck hC)
 have HCP:=Kh (show 0<cntF n wt from cntF_pos (by omega))
 have HCS:=Kh (fun(hC:cntF n wt≤72) j f=>coord_size (n:=n) (wt:=wt) (D:=D) (by omega) hC (j:=j) (f:=f))
 obtain⟨C,hC⟩:∃ C,cntF n wt=C:=⟨_,rfl⟩
 have hC2:(wt+1)*(pts n (n*n)).length=C:=hC
 rw[hC2]at HLA
 rw[hC]at HNW HCS HCP HRE
 obtain⟨L,hL⟩:∃ L,elF n wt D=L:=⟨_,rfl⟩
 rw[hL]at HNW HCS HRE
 have HT:=Kh hT
 clear hT hck h1 h2 h3 h4 h5 h6 hC hC2 hL
 go_enter Tryz.func5,Tryz.ntmps5
 go_wp2_with fail
 obtain⟨w0,hw0,X0,hb0⟩:=bx1 w #[.int .i64 n,.int .i64 ((wt:Int)+2),.int .i64 D] 23
 rw[hw0]
 refine(c_awake w0 (HT.out.below hb0)).mono ?_
 rintro e w1 ⟨rfl,hb1⟩
 have X1:=X0.below_ hb1 X0.lt
 have HB1:=Kh (hb0.trans (hb1.mono hb0.size))
 have x0:=X1.at_ 0 rfl
 have x1:=X1.at_ 1 rfl
 have x2:=X1.at_ 2 rfl
 have HX1:=Kh X1
 clear hw0 X0 hb0 hb1 X1
 go_wp2_with fail
 refine(HLA.out w1).mono ?_
 rintro e w2 ⟨rfl,hb2⟩
 have X2:=bk HX1 hb2
 have HB2:=bt HB1 hb2
 clear x0 x1 x2 hb2
 have x0:=X2.at_ 0 rfl
 have x1:=X2.at_ 1 rfl
 have x2:=X2.at_ 2 rfl
 have HX2:=Kh X2
 clear X2 HX1
 by_cases hbig:72<C
 ·have hd:decide (72<C)=true:=decide_eq_true hbig
  rw[hd]
  go_wp2
  go_ret
  exact⟨rfl,HB2.out⟩
 have hd:decide (72<C)=false:=decide_eq_false hbig
 rw[hd]
 clear hd
 go_wp2_with fail
 refine(HNW.out w2 HB2.out (by omega)).mono ?_
 rintro e w3 ⟨⟨M,rfl,hM,hmod⟩,hb3⟩
 obtain⟨F,hF⟩:∃ F,frs L C=F:=⟨_,rfl⟩
 have HFL:=Kh (show F.length≤72 from Nat.le_trans (hF▸frs_length L C) (by omega))
 have HME:=Kh (show ∀ x,x∈F→x<C from fun x h=>by rw[← hF]at h;exact(frs_mem.1 h).1)
 rw[hF]at hmod HCS HRE
 obtain⟨X,hX⟩:∃ X,crd L C C=X:=⟨_,rfl⟩
 rw[hX]at hmod HCS HRE
 have HCL:=Kh (show C≤72 by omega)
 have HCS:=Kh (HCS.out (by omega))
 have HXS:=Kh (show ∀ j f,j<C→f∈F→hq (X j f)≤10000 from fun j f hj hf=>Nat.le_trans (HCS.out j f hj hf) (by omega))
 have HB3:=bt HB2 hb3
 have X3:=bk HX2 hb3
 have HMO3:=Kh (fun W (hb:Below w3.heap.size w3 W)=>hmod.keep (Nat.le_refl _) hb)
 clear x0 x1 x2 hM hmod hb3 hF hX HNW HLA HT HX2 hbig
 have x0:=X3.at_ 0 rfl
 have x1:=X3.at_ 1 rfl
 have x2:=X3.at_ 2 rfl
 have HX3:=Kh X3
 clear X3
 go_wp2_with fail
 refine(HRE.out w3 HCL.out).mono ?_
 rintro e w4 ⟨⟨vF,vA,rfl,hoF,hoA⟩,hb4⟩
 obtain⟨pF,cF,rfl⟩:=hoF.val
 obtain⟨pA,cA,rfl⟩:=ql_value hoA.ql
 obtain⟨FL,hFL⟩:∃ y,F.length=y:=⟨_,rfl⟩
 have HFLE:=Kh hFL
 obtain⟨CF,hCF⟩:∃ y,C*FL=y:=⟨_,rfl⟩
 have HCF:=Kh hCF
 rw[hFL]at hoF hoA HFL ⊢
 rw[hCF]at hoA ⊢
 have HOF:=Kh hoF
 have HOA:=Kh hoA
 have HB4:=bt HB3 hb4
 have HK4:=Kh hb4
 have HX4:=Kh (bk HX3 hb4)
 clear x0 x1 x2 hoF hoA hb4 HRE hFL hCF
 go_upto_region 11 with(fail)
 obtain⟨w5,hw5,X5,hb5⟩:=bx1 w4 #[.int .i64 (n:Int),.int .i64 ((wt:Int)+2),.int .i64 D,.int .i64 (C:Int),.slice pF FL cF,.int .i64 (C:Int),.int .i64 (FL:Int),.slice pA CF cA] 53
 rw[hw5]
 obtain⟨gw,hgw⟩:∃ y,w4.heap.size=y:=⟨_,rfl⟩
 rw[hgw]at X5 ⊢
 have X6:=bk HX4 hb5
 have HS1:=Kh (show ∀ W,Below w5.heap.size w5 W→(W.cell? ⟨w.heap.size,0,none⟩=some (.int .i64 (n:Int))∧W.cell? ⟨w.heap.size,1,none⟩=some (.int .i64 ((wt:Int)+2))∧W.cell? ⟨w.heap.size,2,none⟩=some (.int .i64 D)∧W.cell? ⟨gw,4,none⟩=some (.slice pF FL cF)∧W.cell? ⟨gw,5,none⟩=some (.int .i64 (C:Int))∧W.cell? ⟨gw,6,none⟩=some (.int .i64 (FL:Int))∧W.cell? ⟨gw,7,none⟩=some (.slice pA CF cA))from fun W hb=>⟨cell_next hb (X6.at_ 0 rfl),cell_next hb (X6.at_ 1 rfl),cell_next hb (X6.at_ 2 rfl),cell_next hb (X5.at_ 4 rfl),cell_next hb (X5.at_ 5 rfl),cell_next hb (X5.at_ 6 rfl),cell_next hb (X5.at_ 7 rfl)⟩)
 have hS0:=HS1.out _ (Below.refl _ w5).drew
 have HB5:=bt HB4 hb5
 have HK5:=bt HK4 hb5
 have HMO:=Kh (fun W (hb:Below w5.heap.size w5 W)=>HMO3.out W (HK5.out.trans (hb.mono HK5.out.size)))
 have HMS:=Kh (fun W (hb:Below w5.heap.size w5 W)=>Nat.le_trans HK5.out.size hb.size)
 have HOF5:=Kh (HOF.out.keep hb5)
 have HOA5:=Kh (HOA.out.keep (fun _=>IsQ.solid _) hb5)
 have HK1:=Kh (show ∀ wb,Below w5.drew.heap.size w5.drew wb→Below w5.heap.size w5 wb from fun wb hb=>(Below.refl _ w5).drew.trans hb)
 have HK2:=Kh (show ∀ wa wb,Below w5.heap.size w5 wa→Below wa.heap.size wa wb→Below w5.heap.size w5 wb from fun wa wb h1 h2=>h1.trans (h2.mono h1.size))
 have HCF72:=Kh (show CF≤72*72 by rw[← HCF.out];exact Nat.mul_le_mul HCL.out HFL.out)
 have HXQ:=Kh (show ∀ j,j<CF→hq (X (j / FL) (F.getD (j % FL) 0))≤35184372088830 from fun j hj=>by
  have hFL0:0<FL:=by
   rcases Nat.eq_zero_or_pos FL with h|h
   ·have h1:=HCF.out
    rw[h,Nat.mul_zero]at h1
    omega
   ·exact h
  have h1:j / FL<C:=by rw[Nat.div_lt_iff_lt_mul hFL0];have h1:=HCF.out;omega
  have h2:j % FL<F.length:=by rw[HFLE.out];exact Nat.mod_lt _ hFL0
  have h3:F.getD (j % FL) 0∈F:=by
   rw[List.getD_eq_getElem?_getD,List.getElem?_eq_getElem h2]
   exact List.getElem_mem h2
  have h4:=HXS.out _ _ h1 h3
  omega)
 have HDIM:=Kh (fun W (hb:Below w5.heap.size w5 W)=>show Calls Tryz.prog 25 #[.pointer (some ⟨M,0,none⟩)] W fun e w'=>e=.returned (.int .i64 (FL:Int))∧w'=W from by
  have h:=c_Dim _ _ _ _ _ _ _ _ _ (HMO.out W hb)
  rw[HFLE.out]at h
  exact h)
 have HMAT:=Kh (fun W (hb:Below w5.heap.size w5 W)=>show Calls Tryz.prog 29 #[.pointer (some ⟨M,0,none⟩)] W fun e w'=>(∃ v,e=.returned (.agg #[.int .i64 C,.int .i64 FL,v])∧OwnQ (fun p=>IsQ (X (p / FL) (F.getD (p % FL) 0))) w' W.heap.size v CF)∧Below W.heap.size W w' from by
  have h:=c_Matrix _ _ _ _ _ _ _ _ _ (HMO.out W hb) (HMS.out W hb) (by have:=HCL.out;omega) (by have:=HFLE.out;have:=HFL.out;omega) HXS.out
  rw[HFLE.out,HCF.out]at h
  exact h)
 clear hw5 X5 hb5 hgw X6
 go_region_held3 (fun W=>W.cell? ⟨w.heap.size,0,none⟩=some (.int .i64 (n:Int))∧W.cell? ⟨w.heap.size,1,none⟩=some (.int .i64 ((wt:Int)+2))∧W.cell? ⟨w.heap.size,2,none⟩=some (.int .i64 D)∧W.cell? ⟨gw,4,none⟩=some (.slice pF FL cF)∧W.cell? ⟨gw,5,none⟩=some (.int .i64 (C:Int))∧W.cell? ⟨gw,6,none⟩=some (.int .i64 (FL:Int))∧W.cell? ⟨gw,7,none⟩=some (.slice pA CF cA))
  (first|with_reducible exact hS0|with_reducible exact HS1.out _ HBA.out)
  (first
   |(go_at_call 24;(with_reducible refine(c_Spec _ _ _ _ _ _ _ _ _ (HMO.out _ (Below.refl _ w5).drew) (HMS.out _ (Below.refl _ w5).drew)).mono ?_);rintro e wa ⟨rfl,hba⟩;have HBA:=Kh (HK1.out _ hba);clear hba)
   |(go_at_call 25;(with_reducible refine(HDIM.out _ HBA.out).mono ?_);rintro e wd ⟨rfl,rfl⟩)
   |(go_at_call 27;(with_reducible refine(c_Free _ _ _ _ _ _ _ _ _ (HMO.out _ HBA.out) (by have:=HFLE.out;have:=HFL.out;omega)).mono ?_);rintro e wb ⟨⟨vb,rfl,hob⟩,hbb⟩;have HOB:=Kh hob;have HBA:=Kh (HK2.out _ _ HBA.out hbb);clear hob hbb)
   |(go_at_call 26;(refine(c_Ints_eq _ _ F _ HOB.out.nl (HOF5.out.keep HBA.out).nl).mono ?_);rintro e wc ⟨rfl,hqb⟩;have HBA:=Kh (HK2.out _ _ HBA.out (quiet_below hqb));clear hqb)
   |(go_at_call 29;(with_reducible refine(HMAT.out _ HBA.out).mono ?_);rintro e wm ⟨⟨vm,rfl,hom⟩,hbm⟩;have HOM:=Kh hom;have HBA:=Kh (HK2.out _ _ HBA.out hbm);clear hom hbm)
   |(go_at_call 28;(refine(c_SameMatrix_eq _ _ _ _ CF (fun p=>X (p / FL) (F.getD (p % FL) 0)) _ HOM.out.ql (HOA5.out.keep (fun _=>IsQ.solid _) HBA.out).ql (by have:=HCF72.out;omega) HXQ.out).mono ?_);rintro e wn ⟨rfl,hbn⟩;have HBA:=Kh (HK2.out _ _ HBA.out hbn);clear hbn))
 all_goals go_wp2
 all_goals go_ret
 all_goals exact⟨rfl,HB5.out.trans (HBA.out.mono HB5.out.size)⟩
theorem c_lawBases (N k D:Int) (w:World) (hT:Tab w):
  Calls Tryz.prog 5 #[.agg #[.int .i64 N,.int .i64 k,.int .i64 D]] w fun e w'=>e=.returned (.bool true)∧Below w.heap.size w w':=by
 by_cases hck:Pl.check N k D=0
 ·obtain⟨h1,h2,h3,h4,_,_⟩:=check_zero hck
  obtain⟨n,rfl⟩:∃ n:Nat,N=n:=⟨N.toNat,by omega⟩
  obtain⟨wt,rfl⟩:∃ wt:Nat,k=(wt:Int)+2:=⟨(k - 2).toNat,by omega⟩
  exact c_lawBases_ok n wt D w hT hck
 ·exact c_lawBases_bad N k D w hT hck
end Go.Proofs.YthikonjlgljikaaGreatDoor
