/- Contracts of halfplaneref41.Reduce and Vector: the coordinates of a symbol and of a combination. -/
import Derived.Test.YthikonjlgljikaaGreatDoorR50
import Derived.Test.YthikonjlgljikaaGreatDoorR34
import Derived.Test.YthikonjlgljikaaGreatDoorR12
import Derived.Test.YthikonjlgljikaaGreatDoorR51
set_option linter.unusedSimpArgs false
set_option maxRecDepth 100000
set_option maxHeartbeats 8000000
namespace Go.Proofs.YthikonjlgljikaaGreatDoor
open Go.RowKit Eli
def RedV (FL gA n:Nat) (v:Value):Prop:=(FL=0∧∃ p c,v=.slice p 0 c)∨∃ c,v=.slice (some ⟨gA,n*FL*4,none⟩) FL c
theorem RedV.val {FL gA n:Nat} {v:Value} (h:RedV FL gA n v):∃ p c,v=.slice p FL c:=by
 rcases h with⟨rfl,p,c,rfl⟩ |⟨c,rfl⟩
 ·exact⟨_,_,rfl⟩
 ·exact⟨_,_,rfl⟩
theorem c_RReduce_range (N k D:Int) (C FL CF:Nat) (pF pA:Option Addr) (cF cA:Nat) (n:Int) (w:World) (hn:n<0∨(C:Int)≤n):
  Calls Tryz.prog 22 #[.agg #[.int .i64 N,.int .i64 k,.int .i64 D,.int .i64 C,.slice pF FL cF,.int .i64 C,.int .i64 FL,.slice pA CF cA],.int .i64 n] w fun e w'=>e=.returned (.tuple #[.slice none 0 0,.int .i64 2])∧Below w.heap.size w w':=by
 have hb:=(Below.refl w.heap.size w).alloc (Nat.le_refl _) (.cells #[.int .i64 N,.int .i64 k,.int .i64 D,.int .i64 C,.slice pF FL cF,.int .i64 C,.int .i64 FL,.slice pA CF cA] 53)
 rcases Int.lt_or_le n 0 with h|h
 ·clear hn
  go_enter Tryz.func22,Tryz.ntmps22
  go_wp2
  (first|go_ret2|go_ret)
  exact⟨rfl,hb⟩
 ·have h2:(C:Int)≤n:=by omega
  have h3:¬ n<0:=by omega
  clear hn
  go_enter Tryz.func22,Tryz.ntmps22
  go_wp2
  (first|go_ret2|go_ret)
  exact⟨rfl,hb⟩
theorem c_RReduce (N k D:Int) (C FL CF:Nat) (pF pA:Option Addr) (cF cA gA n:Nat) (w:World) (hA:FL=0∨pA=some ⟨gA,0,none⟩) (hn:n<C) (hCF:C*FL=CF) (hcA:CF≤cA) (_hcA2:cA≤9223372036854775807) (hC:C≤72) (hFL:FL≤72):
  Calls Tryz.prog 22 #[.agg #[.int .i64 N,.int .i64 k,.int .i64 D,.int .i64 C,.slice pF FL cF,.int .i64 C,.int .i64 FL,.slice pA CF cA],.int .i64 n] w fun e w'=>(∃ v,e=.returned (.tuple #[v,.int .i64 0])∧RedV FL gA n v)∧Below w.heap.size w w':=by
 have hb:=(Below.refl w.heap.size w).alloc (Nat.le_refl _) (.cells #[.int .i64 N,.int .i64 k,.int .i64 D,.int .i64 C,.slice pF FL cF,.int .i64 C,.int .i64 FL,.slice pA CF cA] 53)
 obtain⟨nF,hnF⟩:∃ y,n*FL=y:=⟨_,rfl⟩
 have e1:(n:Int)*(FL:Int)=(nF:Nat):=by rw[← hnF];push_cast;rfl
 have e2:((n:Int)+1)*(FL:Int)=((nF+FL:Nat)):=by rw[Int.add_mul,e1];push_cast;omega
 have hk1:nF+FL≤CF:=by
  have h1:=Nat.mul_le_mul_right FL (show n+1≤C by omega)
  rw[Nat.succ_mul]at h1
  omega
 have hCF2:CF≤72*72:=by rw[← hCF];exact Nat.mul_le_mul hC hFL
 have h0:¬ (n:Int)<0:=by omega
 have h1:(n:Int)<(C:Int):=by omega
 have HNF:=Kh hnF
 clear hCF hnF
 rcases Nat.eq_zero_or_pos FL with hz|hpos
 ·obtain⟨hz2,hz3⟩:0≤nF∧0≤FL:=⟨by omega,by omega⟩
  have HZ:=Kh hz
  obtain rfl:nF=0:=by rw[← HNF.out,hz,Nat.mul_zero]
  subst hz
  clear hA
  go_enter Tryz.func22,Tryz.ntmps22
  go_wp2
  all_goals (first|go_ret2|go_ret)
  all_goals exact⟨⟨_,rfl,.inl ⟨rfl,_,_,rfl⟩⟩,hb⟩
 ·obtain rfl:=hA.resolve_left (by omega)
  have hcz:¬ (cA - nF=0):=by omega
  clear hA
  go_enter Tryz.func22,Tryz.ntmps22
  go_wp2
  all_goals (first|go_ret2|go_ret)
  all_goals try rw[show nF+FL - nF=FL by omega]
  all_goals exact⟨⟨_,rfl,.inr ⟨_,by rw[HNF.out];first|rfl|simp⟩⟩,hb⟩
theorem QL.congr {F G:Nat→FP} {w:World} {v:Value} {n:Nat} (h:QL F w v n) (e:∀ j,j<n→F j=G j):QL G w v n:=by
 rcases h with h |⟨g,o,c,h1,h2,h3⟩
 ·exact .inl h
 ·exact .inr ⟨g,o,c,h1,h2,fun j hj=>by rw[← e j hj];exact h3 j hj⟩
theorem dm_of {FL b:Nat} (a:Nat) (hb:b<FL):(a*FL+b) / FL=a∧(a*FL+b) % FL=b:=by
 rw[Nat.mul_comm a FL]
 exact⟨by rw[Nat.mul_add_div (by omega),Nat.div_eq_of_lt hb,Nat.add_zero],by rw[Nat.mul_add_mod,Nat.mod_eq_of_lt hb]⟩
theorem OwnQ.parts {F:Nat→FP} {w:World} {B n:Nat} {p:Option Addr} {c:Nat} (h:OwnQ F w B (.slice p n c) n):∃ g,(n=0∨(p=some ⟨g,0,none⟩∧g<w.heap.size))∧(∀ j,j<n→QE (F j) w g (j*4))∧n≤c∧c≤9223372036854775807:=by
 rcases h.row with⟨h1,h2⟩ |⟨g,cap,h1,h2,h3⟩
 ·injection h2 with e1 e2 e3
  subst e3
  exact⟨0,.inl h1,fun j hj=>by omega,by omega,by omega⟩
 ·injection h1 with e1 e2 e3
  subst e1 e3
  have h4:=h.caps
  exact⟨g,.inr ⟨rfl,h3.sts.1⟩,h3.val,h4.1,h4.2⟩
theorem RedV.ql {FL gA n CF:Nat} {v:Value} {f:Nat→Rat} {w:World} (h:RedV FL gA n v) (hg:FL=0∨gA<w.heap.size) (hf:∀ j,j<CF→QE (IsQ (f j)) w gA (j*4)) (hn:n*FL+FL≤CF):QL (fun i=>IsQ (f (n*FL+i))) w v FL:=by
 rcases h with⟨rfl,p,c,rfl⟩ |⟨c,rfl⟩
 ·exact .inl ⟨rfl,_,_,rfl⟩
 ·rcases hg with rfl|hg
  ·exact .inl ⟨rfl,_,_,rfl⟩
  ·exact .inr ⟨gA,n*FL*4,c,rfl,hg,fun j hj=>by
    have h1:=hf (n*FL+j) (by omega)
    rw[Nat.add_mul]at h1
    exact h1⟩
theorem c_lawReduces_bad (N k D:Int) (m:Int) (w:World) (hT:Tab w) (hck:Pl.check N k D≠0):
  Calls Tryz.prog 4 #[.agg #[.int .i64 N,.int .i64 k,.int .i64 D],.int .i64 m] w fun e w'=>e=.returned (.bool true)∧Below w.heap.size w w':=by
 have HLA:=Kh (fun W=>c_Large_bad N k D W hck)
 have HNE:=Kh (fun W=>c_New_check N k D W hck)
 have HRE:=Kh (fun W=>c_New41_bad N k D W hck)
 obtain⟨er,her⟩:∃ er,Pl.check N k D=er:=⟨_,rfl⟩
 rw[her]at hck HNE HRE
 have hne:(er != 0)=true:=by simpa using hck
 have HT:=Kh hT
 clear her hck hT
 go_enter Tryz.func4,Tryz.ntmps4
 go_wp2_with fail
 obtain⟨w0,hw0,X0,hb0⟩:=bx1 w #[.int .i64 N,.int .i64 k,.int .i64 D] 23
 rw[hw0]
 refine(c_awake w0 (HT.out.below hb0)).mono ?_
 rintro e w1 ⟨rfl,hb1⟩
 have X1:=X0.below_ hb1 X0.lt
 have HB1:=Kh (hb0.trans (hb1.mono hb0.size))
 have x0:=X1.at_ 0 rfl
 have x1:=X1.at_ 1 rfl
 have x2:=X1.at_ 2 rfl
 have HX1:=Kh X1
 clear hw0 X0 hb0 hb1 X1
 go_wp2_with fail
 refine(HLA.out w1).mono ?_
 rintro e w2 ⟨rfl,hb2⟩
 have X2:=bk HX1 hb2
 have HB2:=bt HB1 hb2
 clear x0 x1 x2 hb2
 have x0:=X2.at_ 0 rfl
 have x1:=X2.at_ 1 rfl
 have x2:=X2.at_ 2 rfl
 have HX2:=Kh X2
 clear X2 HX1
 go_wp2_with fail
 refine(HNE.out w2).mono ?_
 rintro e w3 ⟨rfl,hb3⟩
 have HB3:=bt HB2 hb3
 have X3:=bk HX2 hb3
 clear x0 x1 x2 hb3
 have x0:=X3.at_ 0 rfl
 have x1:=X3.at_ 1 rfl
 have x2:=X3.at_ 2 rfl
 clear X3 HX2
 go_wp2_with fail
 refine(HRE.out w3).mono ?_
 rintro e w4 ⟨rfl,hb4⟩
 have HB4:=bt HB3 hb4
 clear x0 x1 x2 hb4
 go_wp2
 go_ret
 exact⟨rfl,HB4.out.alloc HB4.out.size _⟩
theorem c_lawReduces_ok (n wt:Nat) (D:Int) (m:Int) (w:World) (hT:Tab w) (hck:Pl.check n ((wt:Int)+2) D=0):
  Calls Tryz.prog 4 #[.agg #[.int .i64 n,.int .i64 ((wt:Int)+2),.int .i64 D],.int .i64 m] w fun e w'=>e=.returned (.bool true)∧Below w.heap.size w w':=by
 obtain⟨h1,h2,h3,h4,h5,h6⟩:=check_zero hck
 have HLA:=Kh (fun W=>c_Large n wt D W hck)
 have HNW:=Kh (fun W (hb:Below w.heap.size w W) (hC:cntF n wt≤72)=>c_New n wt D W (hT.below hb) hck hC)
 have HRE:=Kh (fun W (hC:cntF n wt≤72)=>c_New41_ok n wt D W hck hC)
 have HCP:=Kh (show 0<cntF n wt from cntF_pos (by omega))
 have HCS:=Kh (fun(hC:cntF n wt≤72) j f=>coord_size (n:=n) (wt:=wt) (D:=D) (by omega) hC (j:=j) (f:=f))
 obtain⟨C,hC⟩:∃ C,cntF n wt=C:=⟨_,rfl⟩
 have hC2:(wt+1)*(pts n (n*n)).length=C:=hC
 rw[hC2]at HLA
 rw[hC]at HNW HCS HCP HRE
 obtain⟨L,hL⟩:∃ L,elF n wt D=L:=⟨_,rfl⟩
 rw[hL]at HNW HCS HRE
 have HT:=Kh hT
 clear  hT hck h1 h2 h3 h4 h5 h6 hC hC2 hL
 go_enter Tryz.func4,Tryz.ntmps4
 go_wp2_with fail
 obtain⟨w0,hw0,X0,hb0⟩:=bx1 w #[.int .i64 n,.int .i64 ((wt:Int)+2),.int .i64 D] 23
 rw[hw0]
 refine(c_awake w0 (HT.out.below hb0)).mono ?_
 rintro e w1 ⟨rfl,hb1⟩
 have X1:=X0.below_ hb1 X0.lt
 have HB1:=Kh (hb0.trans (hb1.mono hb0.size))
 have x0:=X1.at_ 0 rfl
 have x1:=X1.at_ 1 rfl
 have x2:=X1.at_ 2 rfl
 have HX1:=Kh X1
 clear hw0 X0 hb0 hb1 X1
 go_wp2_with fail
 refine(HLA.out w1).mono ?_
 rintro e w2 ⟨rfl,hb2⟩
 have X2:=bk HX1 hb2
 have HB2:=bt HB1 hb2
 clear x0 x1 x2 hb2
 have x0:=X2.at_ 0 rfl
 have x1:=X2.at_ 1 rfl
 have x2:=X2.at_ 2 rfl
 have HX2:=Kh X2
 clear X2 HX1
 by_cases hbig:72<C
 ·have hd:decide (72<C)=true:=decide_eq_true hbig
  rw[hd]
  go_wp2
  go_ret
  exact⟨rfl,HB2.out⟩
 have hd:decide (72<C)=false:=decide_eq_false hbig
 rw[hd]
 clear hd
 go_wp2_with fail
 refine(HNW.out w2 HB2.out (by omega)).mono ?_
 rintro e w3 ⟨⟨M,rfl,hM,hmod⟩,hb3⟩
 obtain⟨F,hF⟩:∃ F,frs L C=F:=⟨_,rfl⟩
 have HFL:=Kh (show F.length≤72 from Nat.le_trans (hF▸frs_length L C) (by omega))
 have HME:=Kh (show ∀ x,x∈F→x<C from fun x h=>by rw[← hF]at h;exact(frs_mem.1 h).1)
 rw[hF]at hmod HCS HRE
 obtain⟨X,hX⟩:∃ X,crd L C C=X:=⟨_,rfl⟩
 rw[hX]at hmod HCS HRE
 have HCL:=Kh (show C≤72 by omega)
 have HCS:=Kh (HCS.out (by omega))
 have HXS:=Kh (show ∀ j f,j<C→f∈F→hq (X j f)≤10000 from fun j f hj hf=>Nat.le_trans (HCS.out j f hj hf) (by omega))
 have HB3:=bt HB2 hb3
 have X3:=bk HX2 hb3
 have HMO3:=Kh (fun W (hb:Below w3.heap.size w3 W)=>hmod.keep (Nat.le_refl _) hb)
 clear x0 x1 x2 hM hmod hb3 hF hX HNW HLA HT HX2 hbig
 have x0:=X3.at_ 0 rfl
 have x1:=X3.at_ 1 rfl
 have x2:=X3.at_ 2 rfl
 have HX3:=Kh X3
 clear X3
 go_wp2_with fail
 refine(HRE.out w3 HCL.out).mono ?_
 rintro e w4 ⟨⟨vF,vA,rfl,hoF,hoA⟩,hb4⟩
 obtain⟨pF,cF,rfl⟩:=hoF.val
 obtain⟨pA,cA,rfl⟩:=ql_value hoA.ql
 obtain⟨FL,hFL⟩:∃ y,F.length=y:=⟨_,rfl⟩
 have HFLE:=Kh hFL
 obtain⟨CF,hCF⟩:∃ y,C*FL=y:=⟨_,rfl⟩
 have HCF:=Kh hCF
 rw[hFL]at hoF hoA HFL ⊢
 rw[hCF]at hoA ⊢
 have HOF:=Kh hoF
 have HOA:=Kh hoA
 have HB4:=bt HB3 hb4
 have HK4:=Kh hb4
 have HX4:=Kh (bk HX3 hb4)
 clear x0 x1 x2 hoF hoA hb4 HRE hFL hCF
 go_upto_region 9 with(fail)
 obtain⟨w5,hw5,X5,hb5⟩:=bx1 w4 #[.int .i64 (n:Int),.int .i64 ((wt:Int)+2),.int .i64 D,.int .i64 (C:Int),.slice pF FL cF,.int .i64 (C:Int),.int .i64 (FL:Int),.slice pA CF cA] 53
 rw[hw5]
 obtain⟨gw,hgw⟩:∃ y,w4.heap.size=y:=⟨_,rfl⟩
 rw[hgw]at X5 ⊢
 have HB5:=bt HB4 hb5
 have HK5:=bt HK4 hb5
 have HMO:=Kh (fun W (hb:Below w5.heap.size w5 W)=>HMO3.out W (HK5.out.trans (hb.mono HK5.out.size)))
 have HMS:=Kh (fun W (hb:Below w5.heap.size w5 W)=>Nat.le_trans HK5.out.size hb.size)
 obtain⟨gA,hA1,hA2,hcA,hcA2⟩:=(HOA.out.keep (fun _=>IsQ.solid _) hb5).parts
 have HA:=Kh (show FL=0∨(pA=some ⟨gA,0,none⟩∧gA<w5.heap.size)from hA1.imp (fun h=>by
  have h1:=HCF.out
  rw[h]at h1
  exact(Nat.mul_eq_zero.1 h1).resolve_left (by have:=HCP.out;omega)) id)
 have HA1:=Kh (show FL=0∨pA=some ⟨gA,0,none⟩from HA.out.imp id (fun h=>h.1))
 have HA2:=Kh hA2
 have HCA:=Kh (And.intro hcA hcA2)
 have HX5:=Kh X5
 have HFC:=Kh (show ∀ a b,b<FL→X ((a*FL+b) / FL) (F.getD ((a*FL+b) % FL) 0)=X a (F.getD b 0)from fun a b hb=>by rw[(dm_of a hb).1,(dm_of a hb).2])
 have HME2:=Kh (show ∀ b,b<FL→F.getD b 0∈F from fun b hb=>by
  have h2:b<F.length:=by rw[HFLE.out];exact hb
  rw[List.getD_eq_getElem?_getD,List.getElem?_eq_getElem h2]
  exact List.getElem_mem h2)
 clear hw5 X5 hb5 hgw hA1 hA2 hcA hcA2
 by_cases hm:m<0∨(C:Int)≤m
 ·have HM:=Kh hm
  clear hm
  go_wp2_with fail
  refine(c_Reduce_range M w3.heap.size n ((wt:Int)+2) D F C X m w5 (HMO.out w5 (Below.refl _ _)) HM.out).mono ?_
  rintro e w' ⟨rfl,hw'⟩
  obtain rfl:w5=w':=hw'.symm
  have z0:=(HX5.out.below_ (Below.refl _ w5) HX5.out.lt).at_ 0 rfl
  have z1:=(HX5.out.below_ (Below.refl _ w5) HX5.out.lt).at_ 1 rfl
  have z2:=(HX5.out.below_ (Below.refl _ w5) HX5.out.lt).at_ 2 rfl
  have z3:=(HX5.out.below_ (Below.refl _ w5) HX5.out.lt).at_ 3 rfl
  have z4:=(HX5.out.below_ (Below.refl _ w5) HX5.out.lt).at_ 4 rfl
  have z5:=(HX5.out.below_ (Below.refl _ w5) HX5.out.lt).at_ 5 rfl
  have z6:=(HX5.out.below_ (Below.refl _ w5) HX5.out.lt).at_ 6 rfl
  have z7:=(HX5.out.below_ (Below.refl _ w5) HX5.out.lt).at_ 7 rfl
  go_wp2_with fail
  refine(c_RReduce_range n ((wt:Int)+2) D C FL CF pF pA cF cA m w5 HM.out).mono ?_
  rintro e w6 ⟨rfl,hb6⟩
  have HB6:=bt HB5 hb6
  clear hb6 z0 z1 z2 z3 z4 z5 z6 z7
  go_wp2_with fail
  refine(c_SameRats_eq _ _ 0 (fun _=>0) w6 (.inl ⟨rfl,_,_,rfl⟩) (.inl ⟨rfl,_,_,rfl⟩) (by omega) (fun j hj=>absurd hj (Nat.not_lt_zero j))).mono ?_
  rintro e w7 ⟨rfl,hb7⟩
  have HB7:=bt HB6 hb7
  clear hb7
  go_wp2
  go_ret
  exact⟨rfl,HB7.out⟩
 ·obtain⟨mm,rfl⟩:∃ mm:Nat,m=mm:=⟨m.toNat,by omega⟩
  have hmm:mm<C:=by omega
  have HMM:=Kh hmm
  clear hm hmm
  go_wp2_with fail
  refine(c_Reduce M w3.heap.size n ((wt:Int)+2) D F C X mm w5 (HMO.out w5 (Below.refl _ _)) HMM.out (by have:=HFLE.out;have:=HFL.out;omega) (fun f hf=>by have:=HXS.out mm f HMM.out hf;omega)).mono ?_
  rintro e w6 ⟨⟨gr,rfl,_,hqr⟩,hb6⟩
  rw[HFLE.out]at hqr ⊢
  have HQR:=Kh hqr
  have HK6:=Kh hb6
  have HB6:=bt HB5 hb6
  have z0:=(bk HX5 hb6).at_ 0 rfl
  have z1:=(bk HX5 hb6).at_ 1 rfl
  have z2:=(bk HX5 hb6).at_ 2 rfl
  have z3:=(bk HX5 hb6).at_ 3 rfl
  have z4:=(bk HX5 hb6).at_ 4 rfl
  have z5:=(bk HX5 hb6).at_ 5 rfl
  have z6:=(bk HX5 hb6).at_ 6 rfl
  have z7:=(bk HX5 hb6).at_ 7 rfl
  clear hqr hb6
  go_wp2_with fail
  refine(c_RReduce n ((wt:Int)+2) D C FL CF pF pA cF cA gA mm w6 HA1.out HMM.out HCF.out HCA.out.1 HCA.out.2 HCL.out (by have:=HFL.out;omega)).mono ?_
  rintro e w7 ⟨⟨v,rfl,hrv⟩,hb7⟩
  have HB7:=bt HB6 hb7
  have HQ1:=Kh (((HQR.out.ql FL:QL (fun i=>IsQ (X mm (F.getD i 0))) w6 (.slice (some ⟨gr,0,none⟩) FL FL) FL)).keep (fun _=>IsQ.solid _) hb7)
  have hk7:=HK6.out.trans (hb7.mono HK6.out.size)
  have HQ2:=Kh (show QL (fun i=>IsQ (X mm (F.getD i 0))) w7 v FL from QL.congr (RedV.ql (CF:=CF) (f:=fun j=>X (j / FL) (F.getD (j % FL) 0)) hrv (HA.out.imp id (fun h=>Nat.lt_of_lt_of_le h.2 hk7.size)) (fun j hj=>(HA2.out j hj).keep (IsQ.solid _) hk7) (by
   have h1:=Nat.mul_le_mul_right FL (show mm+1≤C from HMM.out)
   rw[Nat.succ_mul,HCF.out]at h1
   exact h1)) (fun b hb=>by rw[HFC.out mm b hb]))
  obtain⟨pv,cv,rfl⟩:=hrv.val
  clear hb7 hk7 hrv z0 z1 z2 z3 z4 z5 z6 z7
  go_wp2_with fail
  refine(c_SameRats_eq _ _ FL (fun i=>X mm (F.getD i 0)) w7 HQ1.out HQ2.out (by have:=HFL.out;omega) (fun j hj=>by have:=HXS.out mm _ HMM.out (HME2.out j hj);omega)).mono ?_
  rintro e w8 ⟨rfl,hb8⟩
  have HB8:=bt HB7 hb8
  clear hb8
  go_wp2
  go_ret
  exact⟨rfl,HB8.out⟩
theorem c_lawReduces (N k D:Int) (m:Int) (w:World) (hT:Tab w):
  Calls Tryz.prog 4 #[.agg #[.int .i64 N,.int .i64 k,.int .i64 D],.int .i64 m] w fun e w'=>e=.returned (.bool true)∧Below w.heap.size w w':=by
 by_cases hck:Pl.check N k D=0
 ·obtain⟨h1,h2,h3,h4,_,_⟩:=check_zero hck
  obtain⟨n,rfl⟩:∃ n:Nat,N=n:=⟨N.toNat,by omega⟩
  obtain⟨wt,rfl⟩:∃ wt:Nat,k=(wt:Int)+2:=⟨(k - 2).toNat,by omega⟩
  exact c_lawReduces_ok n wt D m w hT hck
 ·exact c_lawReduces_bad N k D m w hT hck
end Go.Proofs.YthikonjlgljikaaGreatDoor
