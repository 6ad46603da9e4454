/- Contract of halfplanebase.SameMatrix: equal matrices. -/
import Derived.Test.YtenlbhlllgppmaaGreatDoorK34
import Derived.Test.YtenlbhlllgppmaaGreatDoorK18
import Derived.Test.YtenlbhlllgppmaaGreatDoorK13
import Derived.Test.YtenlbhlllgppmaaGreatDoorK40
import Derived.Test.YtenlbhlllgppmaaGreatDoorK41
import Derived.Test.YtenlbhlllgppmaaGreatDoorK37
import Derived.Test.YtenlbhlllgppmaaGreatDoorK26
set_option linter.unusedSimpArgs false
set_option maxRecDepth 100000
set_option maxHeartbeats 8000000
namespace Go.Proofs.YtenlbhlllgppmaaGreatDoor
open Go.RowKit Eli
theorem c_SameMx (R C:Int) (v1 v2:Value) (n:Nat) (f:Nat→Rat) (w:World) (h1:QL (fun j=>IsQ (f j)) w v1 n) (h2:QL (fun j=>IsQ (f j)) w v2 n) (hn:n≤1000000) (hf:∀ j,j<n→hq (f j)≤35184372088830):
  Calls Tryz.prog 17 #[.agg #[.int .i64 R,.int .i64 C,v1],.agg #[.int .i64 R,.int .i64 C,v2]] w fun e w'=>e=.returned (.bool true)∧Below w.heap.size w w':=by
 obtain⟨p1,c1,rfl⟩:=ql_value h1
 obtain⟨p2,c2,rfl⟩:=ql_value h2
 have HSR:=Kh (fun W (hb:Below w.heap.size w W)=>c_SameRats_eq (.slice p1 n c1) (.slice p2 n c2) n f W (h1.keep (fun _=>IsQ.solid _) hb) (h2.keep (fun _=>IsQ.solid _) hb) hn hf)
 clear h1 h2 hf
 go_enter Tryz.func17,Tryz.ntmps17
 go_upto_region 1 with(fail)
 obtain⟨w0,hw0,X0,X1,hb0⟩:=bx2 w #[.int .i64 R,.int .i64 C,.slice p1 n c1] 32 #[.int .i64 R,.int .i64 C,.slice p2 n c2] 32
 rw[hw0]
 have a0:=X0.at_ 0 rfl
 have a1:=X0.at_ 1 rfl
 have a2:=X0.at_ 2 rfl
 have b0:=X1.at_ 0 rfl
 have b1:=X1.at_ 1 rfl
 have b2:=X1.at_ 2 rfl
 clear hw0 X0 X1
 go_wp2_with fail
 refine(HSR.out w0 hb0).mono ?_
 rintro e w1 ⟨rfl,hb1⟩
 have HB1:=Kh (hb0.trans (hb1.mono hb0.size))
 clear hb1 hb0 a0 a1 a2 b0 b1 b2
 go_wp2
 go_ret
 exact⟨rfl,HB1.out⟩
def NewS (N k D:Int) (w:World) (e:Ending):Prop:=
 (∃ er,er≠0∧e=.returned (.tuple #[.pointer none,.int .i64 er])) ∨
 ∃ (n wt M:Nat) (F:List Nat) (C:Nat) (X:Nat→Nat→Rat),N=n∧(wt:Int)+2=k∧e=.returned (.tuple #[.pointer (some ⟨M,0,none⟩),.int .i64 0])∧ModR w M n wt D F C X∧Crd n wt D F X∧C≤72
theorem new_std (N k D:Int) (w:World) (hT:Tab w):∃ lb:Bool,(∀ W,Calls Tryz.prog 10 #[.agg #[.int .i64 N,.int .i64 k,.int .i64 D]] W fun e w'=>e=.returned (.bool lb)∧Below W.heap.size W w') ∧
  (lb=false→∀ W,Below w.heap.size w W→Calls Tryz.prog 11 #[.agg #[.int .i64 N,.int .i64 k,.int .i64 D]] W fun e w'=>NewS N k D w' e∧Below W.heap.size W w'):=by
 by_cases hck:Pl.check N k D=0
 ·obtain⟨h1,h2,h3,h4,_,_⟩:=check_zero hck
  obtain⟨n,rfl⟩:∃ n:Nat,N=n:=⟨N.toNat,by omega⟩
  obtain⟨wt,rfl⟩:∃ wt:Nat,k=(wt:Int)+2:=⟨(k - 2).toNat,by omega⟩
  refine⟨_,fun W=>c_Large n wt D W hck,fun hl W hb=>?_⟩
  have hC:cntF n wt≤72:=by have h:=of_decide_eq_false hl;unfold cntF;omega
  refine(c_New n wt D W (hT.below hb) hck hC).mono ?_
  rintro e w' ⟨⟨M,rfl,_,hm⟩,hb2⟩
  exact⟨.inr ⟨n,wt,M,_,_,_,rfl,rfl,rfl,⟨hck,rfl,Nat.le_trans (frs_length _ _) hC,hm,fun j f hj hf=>Nat.le_trans (coord_size (by omega) hC hj hf) (by omega),fun f hf=>relZ_of (by omega) hf⟩,crd_of (by omega),hC⟩,hb2⟩
 ·refine⟨false,fun W=>c_Large_bad N k D W hck,fun _ W _=>(c_New_check N k D W hck).mono ?_⟩
  rintro e w' ⟨rfl,hb⟩
  exact⟨.inl ⟨_,hck,rfl⟩,hb⟩
theorem hkM_one {n wt:Nat} {D:Int} {F:List Nat} {X:Nat→Nat→Rat} (hn:0<n) (hc:Crd n wt D F X) {i k:Nat} (hi:i<F.length) (hk:k<F.length):
  hkM n wt D F (cntF n wt) X [(1,0,0,1)] i k=uF F.length i k:=by
 unfold hkM vecS
 have hr:F.getD i 0<(wt+1)*(pts n (n*n)).length:=hc.low _ (getD_mem hi)
 have e:sumQ (fun j=>(hkV n wt (pts n (n*n)) (plAll n D (pts n (n*n)) n) (F.getD i 0) [(1,0,0,1)] [((1,0,0,1):M4)].length j:Rat)*X j (F.getD k 0)) (cntF n wt)=sumQ (fun j=>((if j=F.getD i 0 then 1 else 0:Int):Rat)*X j (F.getD k 0)) ((wt+1)*(pts n (n*n)).length):=sumQ_congr (fun j hj=>by
  rw[show [((1,0,0,1):M4)].length=1 from rfl,hkV_one hn hr j hj])
 rw[e,one_sum (x:=fun j=>X j (F.getD k 0)) hr,hc.one i k hi hk]
 unfold uF
 by_cases h:k=i
 ·rw[if_pos h,if_pos ⟨h.symm,hi⟩];rfl
 ·rw[if_neg h,if_neg (fun h2=>h h2.1.symm)];rfl
theorem c_IdentityA (n:Nat) (w:World) (hn:n≤1000):
  Calls Tryz.prog 13 #[.int .i64 n] w fun e w'=>OpRet n (uF n) w' e∧Below w.heap.size w w':=by
 rcases Nat.eq_zero_or_pos n with rfl|h0
 ·refine(c_Identity0 w).mono ?_
  rintro e w' ⟨rfl,hb⟩
  exact⟨⟨none,0,rfl,.inl ⟨rfl,none,0,rfl⟩⟩,hb⟩
 ·exact c_Identity n w h0 hn
theorem c_Rows_new (z:Int) (W:World) (hz:-2147483648≤z∧z≤2147483648):
  Calls Tryz.prog 45 #[.slice (some ⟨W.heap.size+1,0,none⟩) 1 1] ((W.alloc (.cells #[.int .i64 z] 3)).alloc (.cells #[.slice (some ⟨W.heap.size,0,none⟩) 1 1] 93)) fun e w'=>(∃ p c,e=.returned (.agg #[.int .i64 1,.int .i64 1,.slice p 1 c])∧QL (fun _=>IsQ (z:Rat)) w' (.slice p 1 c) 1)∧Below W.heap.size W w':=by
 obtain⟨X1,X2,hb⟩:=box2 W #[.int .i64 z] 3 #[.slice (some ⟨W.heap.size,0,none⟩) 1 1] 93
 refine(c_Rows1 z (W.heap.size+1) W.heap.size _ X2.lt X1.lt (X2.at_ 0 rfl) (X1.at_ 0 rfl) hz).mono ?_
 rintro e w' ⟨h1,h2⟩
 exact⟨h1,hb.trans (h2.mono hb.size)⟩
theorem aw_hk:hkM 1 2 1 [2] 3 (crd (elF 1 2 1) 3 3) [(1,0,0,2),(1,0,1,2),(2,0,0,1),(2,1,0,1)] 0 0=(((9:Int)):Rat):=by
 have h:=hk_two
 rw[aw_cnt]at h
 exact h
theorem c_awake45 (w:World) (hT:Tab w):
  Calls Tryz.prog 9 #[] w fun e w'=>e=.returned (.bool true)∧Below w.heap.size w w':=by
 have HNW:=Kh (show ∀ W,Below w.heap.size w W→Calls Tryz.prog 11 #[.agg #[.int .i64 1,.int .i64 4,.int .i64 1]] W fun e w'=>(∃ M,e=.returned (.tuple #[.pointer (some ⟨M,0,none⟩),.int .i64 0])∧ModR w' M 1 2 1 [2] 3 (crd (elF 1 2 1) 3 3))∧Below W.heap.size W w' from fun W hb=>by
  have h:=c_New 1 2 1 W (hT.below hb) aw_check (by rw[aw_cnt];omega)
  rw[aw_frs,aw_cnt]at h
  refine Calls.mono h ?_
  rintro e w' ⟨⟨M,rfl,_,hm⟩,hb2⟩
  refine⟨⟨M,rfl,aw_check,aw_cnt,by decide,hm,fun j f hj hf=>?_,fun f hf=>?_⟩,hb2⟩
  ·have h:=coord_size (n:=1) (wt:=2) (D:=1) (by omega) (by rw[aw_cnt];omega) (j:=j) (f:=f) (by rw[aw_cnt];exact hj) (by rw[aw_frs];exact hf)
   rw[aw_cnt]at h
   omega
  ·have h:=relZ_of (n:=1) (wt:=2) (D:=1) (by omega) (f:=f) (by rw[aw_frs];exact hf)
   rw[aw_cnt]at h
   exact h)
 have HT:=Kh hT
 have HOP:=Kh (fun M W (hb:Below w.heap.size w W) (hm:ModR W M 1 2 1 [2] 3 (crd (elF 1 2 1) 3 3))=>show Calls Tryz.prog 12 #[.pointer (some ⟨M,0,none⟩),.int .i64 2] W fun e w'=>(∃ p c,e=.returned (.tuple #[.agg #[.int .i64 1,.int .i64 1,.slice p 1 c],.int .i64 0])∧QL (fun _=>IsQ (((9:Int)):Rat)) w' (.slice p 1 c) 1)∧Below W.heap.size W w' from by
  have h:=c_Operator 2 [(1,0,0,2),(1,0,1,2),(2,0,0,1),(2,1,0,1)] W (hT.below hb) hm (fun f hf=>by simp at hf;omega) (by omega) (by omega) (by omega) mr_2 (by decide) (by decide) (fun t ht=>by
   rcases(show t=0∨t=1∨t=2∨t=3 by have h4:t<4:=ht;omega)with rfl|rfl|rfl|rfl <;>(unfold GIn;decide))
  refine Calls.mono h ?_
  rintro e w' ⟨⟨p,c,he,hq⟩,hb2⟩
  refine⟨⟨p,c,he,QL.eqv hq (fun j hj=>?_)⟩,hb2⟩
  obtain rfl:j=0:=by have h1:j<1:=hj;omega
  exact aw_hk)
 clear hT
 go_enter Tryz.func9,Tryz.ntmps9
 go_wp2_with fail
 refine(HNW.out w (Below.refl _ w)).mono ?_
 rintro e w1 ⟨⟨M,rfl,hm⟩,hb1⟩
 have HM1:=Kh hm
 have HB1:=Kh hb1
 clear hm hb1 HNW
 go_wp2_with fail
 refine(HOP.out M w1 HB1.out HM1.out).mono ?_
 rintro e w2 ⟨⟨p2,c2,rfl,hq2⟩,hb2⟩
 have HQ2:=Kh hq2
 have HB2:=bt HB1 hb2
 clear hq2 hb2 HM1 HB1 HOP HT
 go_upto_region 5 with(fail)
 obtain⟨w3,hw3,X3,hb3⟩:=bx1 w2 #[.int .i64 1,.int .i64 1,.slice p2 1 c2] 32
 rw[hw3]
 obtain⟨g3,hg3⟩:∃ x,w2.heap.size=x:=⟨_,rfl⟩
 rw[hg3]at X3 ⊢
 have x0:=X3.at_ 0 rfl
 have x1:=X3.at_ 1 rfl
 have x2:=X3.at_ 2 rfl
 have HQ3:=Kh (HQ2.out.keep (fun _=>IsQ.solid _) hb3)
 have HB3:=bt HB2 hb3
 clear hw3 X3 hb3 hg3 HQ2 HB2
 refine rgX [8,9] (fun W=>W.cell? ⟨g3,0,none⟩=some (.int .i64 1)∧W.cell? ⟨g3,1,none⟩=some (.int .i64 1)∧W.cell? ⟨g3,2,none⟩=some (.slice p2 1 c2)) (fun W hb=>⟨cnx hb x0,cnx hb x1,cnx hb x2⟩) (fun HSE hHeld0=>?_)
 refine tkX 0 ?_;refine tkX 1 ?_;refine tkX 2 ?_;refine tkX 3 ?_
 refine stX 4 rfl (fun K hK=>?_)
 focus(go_simp;refine hK.out _ _ ?_ (fun hHeld1=>?_))
 focus((try dsimp only);exact HSE.out _ ((Below.refl _ w3).drew.alloc (Nat.le_refl _) _))
 focus(clear hK K;(try simp only[Act.put,lsa,lsz,lss]))
 refine stX 5 rfl (fun K hK=>?_)
 focus(go_simp;refine hK.out _ _ ?_ (fun hHeld2=>?_))
 focus((try dsimp only);exact HSE.out _ (((Below.refl _ w3).drew.alloc (Nat.le_refl _) _).alloc (by simp) _))
 focus(clear hK K;(try simp only[Act.put,lsa,lsz,lss]))
 refine stX 6 rfl (fun K hK=>?_)
 focus(go_simp;refine(c_Rows_new 9 w3.drew (by decide)).mono ?_;rintro e w4 ⟨⟨p4,c4,rfl,hq4⟩,hb4⟩;have HB4:=Kh ((Below.refl _ w3).drew.trans hb4:Below w3.heap.size w3 w4);have HQ4:=Kh hq4;clear hq4 hb4;(first|with_reducible refine hK.out _ _ ?_ (fun hHeld3=>?_) |(go_wp2_with fail;with_reducible refine hK.out _ _ ?_ (fun hHeld3=>?_))))
 focus((try dsimp only);exact HSE.out _ HB4.out)
 focus(clear hK K;(try simp only[Act.put,lsa,lsz,lss]))
 refine snX 7 rfl (fun K hK=>?_)
 focus(go_simp;refine(c_SameMx 1 1 (.slice p2 1 c2) (.slice p4 1 c4) 1 (fun _=>(((9:Int)):Rat)) w4 (HQ3.out.keep (fun _=>IsQ.solid _) HB4.out) HQ4.out (by decide) (fun _ _=>by decide +kernel)).mono ?_;rintro e w5 ⟨rfl,hb5⟩;have HB5:=bt HB4 hb5;clear hb5;(first|with_reducible refine hK.out _ _ ?_ |(go_wp2_with fail;with_reducible refine hK.out _ _ ?_)))
 clear hK K
 (try simp only[Act.put,lsa,lsz,lss])
 refine tkJ 8 ?_;refine tkJ 9 ?_
 refine dnX ?_
 go_wp2
 go_ret
 exact⟨rfl,HB3.out.trans (HB5.out.mono HB3.out.size)⟩
end Go.Proofs.YtenlbhlllgppmaaGreatDoor
