/- Contract of halfplaneref41.New. -/
import Derived.Test.YthikonjlgljikaaGreatDoorV44
import Derived.Test.YthikonjlgljikaaGreatDoorV12
import Derived.Test.YthikonjlgljikaaGreatDoorV48
set_option linter.unusedSimpArgs false
set_option maxRecDepth 100000
set_option maxHeartbeats 8000000
namespace Go.Proofs.YthikonjlgljikaaGreatDoor
open Go.RowKit Eli
def NewRet (N k D:Int) (C:Nat) (F:List Nat) (X:Nat→Nat→Rat) (B:Nat) (w':World) (e:Ending):Prop:=∃ vF vA,e=.returned (.tuple #[.agg #[.int .i64 N,.int .i64 k,.int .i64 D,.int .i64 C,vF,.int .i64 C,.int .i64 F.length,vA],.int .i64 0])∧OwnN F w' B vF∧OwnQ (fun j=>IsQ (X (j / F.length) (F.getD (j % F.length) 0))) w' B vA (C*F.length)
theorem OwnN.but {l:List Nat} {w w':World} {B:Nat} {v:Value} {R:Option Nat} (h:OwnN l w B v) (hg:w.grownBy w' R) (hne:∀ g,v.ownBlock=some g→R≠some g):OwnN l w' B v:=OwnK.but h hg hne
def ints (l:List Nat):List Value:=l.map fun n:Nat=>Value.int .i64 (n:Int)
def fre (ld:Nat→Bool) (c:Nat):List Nat:=(List.range c).filter fun j=>!ld j
theorem fre_succ (ld:Nat→Bool) (c:Nat):fre ld (c+1)=if ld c then fre ld c else fre ld c++[c]:=by
 unfold fre
 rw[List.range_succ,List.filter_append]
 cases h:ld c <;> simp[h]
theorem fre_length (ld:Nat→Bool) (c:Nat):(fre ld c).length≤c:=by
 unfold fre
 exact Nat.le_trans (List.length_filter_le _ _) (Nat.le_of_eq List.length_range)
def GQ (F:Nat→FP) (w:World) (gm B m:Nat) (l:List Value):Prop:=∃ xs,GBox NotInt 35 4 w gm B 7 m l xs∧∀ j,j<m→QX (F j) w xs (j*4)
theorem GQ.keep {F:Nat→FP} (hF:∀ j,Solid (F j)) {w w':World} {gm B m:Nat} {l:List Value} (h:GQ F w gm B m l) (hb:Below w.heap.size w w'):GQ F w' gm B m l:=by
 obtain⟨xs,h1,h2⟩:=h
 exact⟨xs,h1.keep hb,fun j hj=>(h2 j hj).i32 (hF j) (I32.below hb)⟩
theorem GQ.cell {F:Nat→FP} {w:World} {gm B m:Nat} {l:List Value} (h:GQ F w gm B m l) (i:Nat) (v:Value) (hi:i≠7) (e:l[i]?=some v):w.cell? ⟨gm,i,none⟩=some v:=by
 obtain⟨xs,h1,_⟩:=h
 exact h1.cell i v hi e
theorem GQ.lt {F:Nat→FP} {w:World} {gm B m:Nat} {l:List Value} (h:GQ F w gm B m l):gm<B∧B≤w.heap.size:=by
 obtain⟨xs,h1,_⟩:=h
 exact⟨h1.lt,h1.hB⟩
theorem GQ.push {F:Nat→FP} (hF:∀ j,Solid (F j)) {W w':World} {gm B m:Nat} {l xs:List Value} {p:Option Addr} {c:Nat} {v':Value} {s t:Bool} {pn q:Option Addr} {k cn u d:Nat} (h:GBox NotInt 35 4 W gm B 7 m l xs) (h2:∀ j,j<m→QX (F j) W xs (j*4)) (hv:W.cell? ⟨gm,7,none⟩=some (.slice p m c)) (hK:OwnK NotInt W B 35 4 (.slice p m c) m xs)
  (hq:F m W s pn k cn t q u d) (hown:OwnK NotInt w' B 35 4 v' (m+1) (xs++[.bool s,.slice pn k cn,.bool t,.slice q u d])) (hg:W.grownBy w' (Value.slice p m c).ownBlock):
  ∃ p9 c9,v'=.slice p9 (m+1) c9∧w'.cell? ⟨gm,7,none⟩=some (.slice p m c)∧(∀ i,w'.frozen? ⟨gm,i,none⟩=false)∧GQ F (w'.setCell ⟨gm,7,none⟩ (.slice p9 (m+1) c9)) gm B (m+1) l:=by
 obtain⟨p9,c9,rfl⟩:=own_slice hown.1
 obtain⟨d2,df,hm⟩:=GBox.more h hv hK.1 hown hg
 obtain⟨xs9,k1,k2⟩:=OwnQ.push (W:=W) hF hK h2 hq hown hg
 have hst:Stk NotU32 w' gm:=by
  have hne:some gm≠(Value.slice p m c).ownBlock:=fun e=>by
   have:=own_ge hK.1 e
   have:=h.lt
   omega
  have hblk:=hg.block gm h.stk.1 (fun e=>hne e)
  exact⟨Nat.lt_of_lt_of_le h.stk.1 hg.size,fun i u hu=>h.stk.2 i u ((World.cell?_of_block (a:=⟨gm,i,none⟩) hblk).symm.trans hu)⟩
 obtain⟨_,_,hm9⟩:=GBox.more h hv hK.1 k1 hg
 exact⟨p9,c9,rfl,d2,df,xs9,hm9,fun j hj=>(k2 j hj).i32 (hF j) (I32.putU hst 7 _)⟩
def frQ (ld:Nat→Bool) (O:Nat→Nat→Rat) (n f:Nat):Rat:=if ld n then -(O n f)else if f=n then 1 else 0
abbrev P8 (w:World) (R:Nat) (v0 v1 v2 v3 v4 v5 v6 v7:Value):World:=(((((((w.setCell ⟨R,0,none⟩ v0).setCell ⟨R,1,none⟩ v1).setCell ⟨R,2,none⟩ v2).setCell ⟨R,3,none⟩ v3).setCell ⟨R,4,none⟩ v4).setCell ⟨R,5,none⟩ v5).setCell ⟨R,6,none⟩ v6).setCell ⟨R,7,none⟩ v7
theorem put8_at {w:World} {R:Nat} {v0 v1 v2 v3 v4 v5 v6 v7:Value} (h:∀ i,i<8→(w.cell? ⟨R,i,none⟩).isSome=true):
  (P8 w R v0 v1 v2 v3 v4 v5 v6 v7).cell? ⟨R,0,none⟩=some v0∧(P8 w R v0 v1 v2 v3 v4 v5 v6 v7).cell? ⟨R,1,none⟩=some v1∧(P8 w R v0 v1 v2 v3 v4 v5 v6 v7).cell? ⟨R,2,none⟩=some v2∧(P8 w R v0 v1 v2 v3 v4 v5 v6 v7).cell? ⟨R,3,none⟩=some v3∧(P8 w R v0 v1 v2 v3 v4 v5 v6 v7).cell? ⟨R,4,none⟩=some v4∧(P8 w R v0 v1 v2 v3 v4 v5 v6 v7).cell? ⟨R,5,none⟩=some v5∧(P8 w R v0 v1 v2 v3 v4 v5 v6 v7).cell? ⟨R,6,none⟩=some v6∧(P8 w R v0 v1 v2 v3 v4 v5 v6 v7).cell? ⟨R,7,none⟩=some v7:=by
 refine⟨?_,?_,?_,?_,?_,?_,?_,?_⟩
 ·rw[World.cell?_setCell_other _ _ _ _ (by simp),World.cell?_setCell_other _ _ _ _ (by simp),World.cell?_setCell_other _ _ _ _ (by simp),World.cell?_setCell_other _ _ _ _ (by simp),World.cell?_setCell_other _ _ _ _ (by simp),World.cell?_setCell_other _ _ _ _ (by simp),World.cell?_setCell_other _ _ _ _ (by simp),World.cell?_setCell_same' _ _ _ (h 0 (by decide))]
 ·rw[World.cell?_setCell_other _ _ _ _ (by simp),World.cell?_setCell_other _ _ _ _ (by simp),World.cell?_setCell_other _ _ _ _ (by simp),World.cell?_setCell_other _ _ _ _ (by simp),World.cell?_setCell_other _ _ _ _ (by simp),World.cell?_setCell_other _ _ _ _ (by simp),World.cell?_setCell_same' _ _ _ (some_put (h 1 (by decide)))]
 ·rw[World.cell?_setCell_other _ _ _ _ (by simp),World.cell?_setCell_other _ _ _ _ (by simp),World.cell?_setCell_other _ _ _ _ (by simp),World.cell?_setCell_other _ _ _ _ (by simp),World.cell?_setCell_other _ _ _ _ (by simp),World.cell?_setCell_same' _ _ _ (some_put (some_put (h 2 (by decide))))]
 ·rw[World.cell?_setCell_other _ _ _ _ (by simp),World.cell?_setCell_other _ _ _ _ (by simp),World.cell?_setCell_other _ _ _ _ (by simp),World.cell?_setCell_other _ _ _ _ (by simp),World.cell?_setCell_same' _ _ _ (some_put (some_put (some_put (h 3 (by decide)))))]
 ·rw[World.cell?_setCell_other _ _ _ _ (by simp),World.cell?_setCell_other _ _ _ _ (by simp),World.cell?_setCell_other _ _ _ _ (by simp),World.cell?_setCell_same' _ _ _ (some_put (some_put (some_put (some_put (h 4 (by decide))))))]
 ·rw[World.cell?_setCell_other _ _ _ _ (by simp),World.cell?_setCell_other _ _ _ _ (by simp),World.cell?_setCell_same' _ _ _ (some_put (some_put (some_put (some_put (some_put (h 5 (by decide)))))))]
 ·rw[World.cell?_setCell_other _ _ _ _ (by simp),World.cell?_setCell_same' _ _ _ (some_put (some_put (some_put (some_put (some_put (some_put (h 6 (by decide))))))))]
 ·rw[World.cell?_setCell_same' _ _ _ (some_put (some_put (some_put (some_put (some_put (some_put (some_put (h 7 (by decide)))))))))]
theorem put8_but {w:World} {R:Nat} {v0 v1 v2 v3 v4 v5 v6 v7:Value}:w.grownBy (P8 w R v0 v1 v2 v3 v4 v5 v6 v7) (some R):=((((((((but_put w R 0 v0).trans (but_put _ R 1 v1)).trans (but_put _ R 2 v2)).trans (but_put _ R 3 v3)).trans (but_put _ R 4 v4)).trans (but_put _ R 5 v5)).trans (but_put _ R 6 v6)).trans (but_put _ R 7 v7))
theorem Eli.GjAt.frs_eq {n B m c:Nat} {rows:Nat→Nat→Int} {ld:Nat→Bool} {L:Nat→Nat→Rat} {R:Nat→Nat→Int} {O:Nat→Nat→Rat} {A:(Nat→Rat)→Prop} (h:GjAt n B rows m c ld L R O A) (hB:1≤B) (hb:∀ i q,(rows i q).natAbs≤B) (h0:∀ i q,n≤q→rows i q=0) (he:c=n∨∀ a,¬ A a):frs (elim n rows m) n=fre ld n:=by
 refine List.filter_congr (fun j hj=>?_)
 rw[h.same_ld hB hb h0 he j (List.mem_range.1 hj),ldOf,Bool.not_not]
theorem Eli.GjAt.crd_eq {n B m c:Nat} {rows:Nat→Nat→Int} {ld:Nat→Bool} {L:Nat→Nat→Rat} {R:Nat→Nat→Int} {O:Nat→Nat→Rat} {A:(Nat→Rat)→Prop} (h:GjAt n B rows m c ld L R O A) (hB:1≤B) (hb:∀ i q,(rows i q).natAbs≤B) (h0:∀ i q,n≤q→rows i q=0) (he:c=n∨∀ a,¬ A a) {j f:Nat} (hj:j<n) (hf:f<n) (hl:ld f=false):
  crd (elim n rows m) n n j f=frQ ld O j f:=by
 cases hd:ld j with
 | true=>rw[h.same_crd hB hb h0 he hd hf hl,frQ,if_pos hd]
 | false=>
  have h1:=h.same_ld hB hb h0 he j hj
  rw[hd]at h1
  rw[crd_free (Good.elim hB hb h0 m) (by omega) (Nat.le_refl _) hj (of_ldOf_false h1.symm),frQ,hd,if_neg (show ¬ (false=true)by decide)]
theorem c_New41 (N k D:Int) (R C:Nat) (f:Nat→Int) (w:World) (hrel:∀ w1,Below w.heap.size w w1→Calls Tryz.prog 58 #[.agg #[.int .i64 N,.int .i64 k,.int .i64 D]] w1 fun e w'=>RelRet R C f e w'∧Below w1.heap.size w1 w')
  (hR:R≤1000) (hR0:0<R) (h0:0<C) (hC:C≤72) (hf:∀ j,(f j).natAbs≤16777216):
  Calls Tryz.prog 20 #[.agg #[.int .i64 N,.int .i64 k,.int .i64 D]] w fun e w'=>NewRet N k D C (frs (elim C (rowF C f) R) C) (crd (elim C (rowF C f) R) C C) w.heap.size w' e∧Below w.heap.size w w':=by
 have HREL:=Kh hrel
 have HF:=Kh hf
 clear hrel hf
 go_enter Tryz.func20,Tryz.ntmps20
 go_wp2_with fail
 obtain⟨w0,hw0,X0,X1,hb0⟩:=bx2 w #[.int .i64 N,.int .i64 k,.int .i64 D] 23 #[.int .i64 0,.int .i64 0,.int .i64 0,.int .i64 0,.slice none 0 0,.int .i64 0,.int .i64 0,.slice none 0 0] 53
 rw[hw0]
 obtain⟨bs,hbs⟩:∃ x,w.heap.size=x:=⟨_,rfl⟩
 obtain⟨gr,hgr⟩:∃ x,w.heap.size+1=x:=⟨_,rfl⟩
 have HGR:=Kh (show gr=w.heap.size+1 from hgr.symm)
 have HB0:=Kh hb0
 rw[hgr]at X1 ⊢
 rw[hbs]at X0 ⊢
 have HBS:=Kh hbs
 have HX0:=Kh X0
 have HX1:=Kh X1
 clear hw0 X0 X1 hbs hgr
 refine(HREL.out w0 hb0).mono ?_
 rintro e w1 ⟨⟨gA,oA,cA,rfl,hg1,hA,hc1,hc2⟩,hb1⟩
 have hbz:=hb1
 obtain⟨w2,hw2⟩:∃ w2,w1.alloc (.cells #[.int .i64 R,.int .i64 C,.slice (some ⟨gA,oA,none⟩) (R*C:Nat) cA] 76)=w2:=⟨_,rfl⟩
 obtain⟨X2,hb2⟩:=box1 w1 #[.int .i64 R,.int .i64 C,.slice (some ⟨gA,oA,none⟩) (R*C:Nat) cA] 76
 rw[hw2]at X2 hb2
 obtain⟨gz,hgz⟩:∃ x,w1.heap.size=x:=⟨_,rfl⟩
 have HGZ0:=Kh (show gr<gz from by have h1:=hb1.size;have h2:=HX1.out.lt;omega)
 have hb12:=hb1.trans (hb2.mono hb1.size)
 have HA2:=Kh (fun j (hj:j<R*C)=>(hA j hj).keep hb2)
 have HG2:=Kh (Nat.lt_of_lt_of_le hg1 hb2.size)
 have HB2:=Kh (hb0.trans (hb12.mono hb0.size))
 have HY0:=Kh (bk HX0 hb12)
 have HY1:=Kh (bk HX1 hb12)
 rw[hgz]at X2
 have HX2:=Kh X2
 have x0:=HY0.out.at_ 0 rfl
 have x1:=HY0.out.at_ 1 rfl
 have x2:=HY0.out.at_ 2 rfl
 have y0:=HX2.out.at_ 0 rfl
 have y1:=HX2.out.at_ 1 rfl
 have y2:=HX2.out.at_ 2 rfl
 clear hb0 hb1 hbz hg1 hA hc1 hc2 hb2 hb12 X2 HX0 HX1 HB0 HREL
 have HGZ1:=Kh hgz
 go_upto_region 5 with(fail)
 obtain⟨w3,hw3,X3,hb3⟩:=bx1 w2 #[.int .i64 N,.int .i64 k,.int .i64 D,.int .i64 C,.slice none 0 0,.int .i64 0,.int .i64 0,.slice none 0 0] 53
 rw[hw3]
 obtain⟨gm,hgm⟩:∃ x,w2.heap.size=x:=⟨_,rfl⟩
 rw[hgm]at X3 ⊢
 have HX3:=Kh X3
 have HGZ:=Kh (show bs<gr∧gr<gz∧gz<gm by
  have h2:=HY1.out.lt
  have h3:=HX2.out.lt
  have h4:=HGR.out
  have h5:=HBS.out
  have h6:=HGZ0.out
  omega)
 have HY3:=Kh (bk HY1 hb3)
 have HZ3:=Kh (bk HX2 hb3)
 have HB3:=bt HB2 hb3
 have z0:=HZ3.out.at_ 0 rfl
 have z1:=HZ3.out.at_ 1 rfl
 have z2:=HZ3.out.at_ 2 rfl
 have HA3:=Kh (fun j (hj:j<R*C)=>(HA2.out j hj).keep hb3)
 have HG3:=Kh (Nat.lt_of_lt_of_le HG2.out hb3.size)
 have hRC:R*C≤72000:=Nat.mul_le_mul hR hC
 clear X3 hb3 hw2 hgz hw3 hgm x0 x1 x2 y0 y1 y2 HA2 HG2
 go_wp2_with fail
 refine(c_Rational R C gA oA cA (R*C) f w3 HA3.out HG3.out (fun j _=>Nat.le_trans (nd_small (Nat.le_trans (HF.out j) (by decide))) (by decide)) (by omega)).mono ?_
 rintro e w4 ⟨⟨v4,rfl,ho4⟩,hb4⟩
 obtain⟨g4,o4,cap4,rfl,hg4,hq4⟩:=ho4.ql.resolve_left (fun h=>by
  have h1:=Nat.mul_pos hR0 h0
  have h2:=h.1
  omega)
 have HECH:=Kh (c_Echelon C R (R*C) (rowF C f) g4 o4 cap4 w4 h0 hC hR0 hR (rowF_small HF.out) (rowF_zero C f) rfl (fun i q hi hq1=>by
  have h1:=hq4 (i*C+q) (ix_lt hi hq1)
  rw[rowF,if_pos hq1]
  exact h1) hg4)
 have HB4:=bt HB3 hb4
 have H34:=Kh hb4
 clear ho4 hb4 hg4 hq4 z0 z1 z2
 go_wp2_with fail
 refine HECH.out.mono ?_
 rintro e w5 ⟨⟨vA,vp,ld,L,Rr,O,A,c,rfl,hgj,hfin,hoA,hop⟩,hb5⟩
 obtain⟨pA,cA2,rfl⟩:=ql_value hoA.ql
 obtain⟨pp,cp,rfl⟩:=hop.val
 obtain⟨P,hP⟩:∃ P,(pvs ld C).length=P:=⟨_,rfl⟩
 rw[hP]at hoA
 obtain⟨PC,hPCe⟩:∃ y,P*C=y:=⟨_,rfl⟩
 rw[hPCe]at hoA
 have HPC:=Kh hPCe
 have HGJ:=Kh hgj
 have HFIN:=Kh hfin
 have HOA:=Kh hoA
 have HOP:=Kh hop
 have HB5:=bt HB4 hb5
 have H45:=Kh hb5.size
 have H35:=bt H34 hb5
 have HP:=Kh hP
 have hPC:P≤72:=by rw[← hP];exact Nat.le_trans (pvs_length ld C) hC
 have hPC2:PC≤72*72:=by rw[← hPCe];exact Nat.mul_le_mul hPC hC
 clear hgj hfin hoA hop hb5 HECH
 rw[hP,hPCe]
 clear hP hPCe
 go_upto_region 6 with(fail)
 obtain⟨w6,hw6,X6,hb6⟩:=bx1 w5 #[.int .i64 P,.int .i64 C,.slice pA PC cA2] 51
 rw[hw6]
 obtain⟨ge,hge⟩:∃ x,w5.heap.size=x:=⟨_,rfl⟩
 rw[hge]at X6 ⊢
 have HGE:=Kh hge
 have HX6:=Kh X6
 have hb36:=H35.out.trans (hb6.mono H35.out.size)
 have HY6:=Kh (bk HY3 hb36)
 have HM6:=Kh (bk HX3 hb36)
 have HB6:=bt HB5 hb6
 have HOP6:=Kh (HOP.out.keep hb6)
 have HOA6:=Kh (HOA.out.keep (fun _=>IsQ.solid _) hb6)
 have HORD:=Kh (show bs<gr∧gr<gz∧gz<gm∧gm<w4.heap.size∧w4.heap.size≤ge∧ge<w6.heap.size by
  have h1:=HGZ.out
  have h2:=Nat.lt_of_lt_of_le HX3.out.lt H34.out.size
  have h3:=HX6.out.lt
  have h4:=HOA.out
  have h5:w4.heap.size≤w5.heap.size:=H45.out
  omega)
 have HPV:=Kh (show ∀ y∈pvs ld C,y≤1000000 from fun y hy=>by have:=(pvs_mem.1 hy).1;omega)
 obtain⟨BB,hBB⟩:∃ x,w6.heap.size=x:=⟨_,rfl⟩
 have HBB:=Kh hBB
 have HG0:=Kh (show GBox IntV 3 1 w6 gm BB 4 (fre ld 0).length [.int .i64 N,.int .i64 k,.int .i64 D,.int .i64 C,.slice none 0 0,.int .i64 0,.int .i64 0,.slice none 0 0] (ints (fre ld 0))from GBox.start (l:=[.int .i64 N,.int .i64 k,.int .i64 D,.int .i64 C,.slice none 0 0,.int .i64 0,.int .i64 0,.slice none 0 0]) HM6.out hBB rfl (by intro v hv;simp at hv;rcases hv with rfl|rfl|rfl|rfl|rfl|rfl|rfl|rfl <;> exact fun _ h=>by cases h))
 clear hw6 X6 hb6 hge hb36 hBB HX3 HY3 HZ3 HA3 HG3 HOP HOA HX2 HY0 HY1
 go_wp2_with fail
 go_loopw [9] (fun vi wr=>∃ n:Nat,n≤C∧vi=.int .i64 n∧GBox IntV 3 1 wr gm BB 4 (fre ld n).length [.int .i64 N,.int .i64 k,.int .i64 D,.int .i64 C,.slice none 0 0,.int .i64 0,.int .i64 0,.slice none 0 0] (ints (fre ld n))∧w6.grownBy wr (some gm)) (fun vi _=>C - (intOf vi).toNat)
 case atStart=>exact⟨0,Nat.zero_le _,rfl,HG0.out,but_below gm (Below.refl _ _)⟩
 case round=>
  obtain⟨n,hn,rfl,hbox,hgw⟩:=hrel
  obtain⟨we,rfl⟩:∃ we:World,we=wr:=⟨_,rfl⟩
  have HBOX:=Kh hbox
  have HGW:=Kh hgw
  have m3:=hbox.cell 3 _ (by decide) rfl
  clear hbox hgw HG0
  by_cases hnC:n<C
  ·have hni:(n:Int)<(C:Int):=by omega
   have HROW:=Kh (c_row41 (pvs ld C) (.slice pp P cp) n w6.heap.size we (by
    have h1:=HOP6.out.nl.but HGW.out (fun g e=>by
     have h2:=(HOP6.out.ge e).1
     have h3:=HORD.out
     omega)
    rw[HP.out]at h1
    exact h1) (by rw[HP.out];omega) (by omega) HPV.out)
   go_wp2_with fail
   refine HROW.out.mono ?_
   rintro e w7 ⟨⟨r,rfl,hrow⟩,rfl⟩
   cases hl:ld n with
   | true=>
    have hmem:n∈pvs ld C:=pvs_mem.2 ⟨hnC,hl⟩
    obtain⟨i,hi⟩:∃ i:Nat,r=(i:Int):=by
     rcases hrow with⟨_,h⟩ |⟨i,h,_⟩
     ·exact absurd hmem h
     ·exact⟨i,h⟩
    subst hi
    have hr0:¬ ((i:Int)<0):=by omega
    have HFR:=Kh (show fre ld (n+1)=fre ld n by rw[fre_succ,hl];rfl)
    clear hrow hmem hl
    go_wp2
    go_roundw
    case rel=>exact⟨n+1,by omega,by go_num,by rw[HFR.out];exact HBOX.out,HGW.out⟩
    case measure=>simp[intOf];omega
   | false=>
    obtain rfl:r=-1:=by
     rcases hrow with⟨h,_⟩ |⟨i,_,h⟩
     ·exact h
     ·have h2:=(pvs_mem.1 (List.mem_of_getElem? h)).2
      rw[hl]at h2
      cases h2
    have HFR:=Kh (show fre ld (n+1)=fre ld n++[n]by rw[fre_succ,hl];rfl)
    obtain⟨p,c4,m4,hK⟩:=HBOX.out.cj
    have HK:=Kh hK
    have HM4:=Kh m4
    have hfl:=fre_length ld n
    have hBe:=HBOX.out.hB
    clear hrow hl hK
    go_wp2_with (at_builtin;refine wpl_app2 IntV rfl (.tmp 44) (.tmp 46) _ 3 rfl Tryz.underlying49 intInfo rfl (by decide) BB (fre ld n).length (.slice p (fre ld n).length c4) (ints (fre ld n)) [.int .i64 (n:Int)] rfl HK.out rfl rfl (ione1 _) (by omega) (by omega) hBe (iv1 _) ivz ?_;intro v' w' hown' hgr hat;obtain⟨p9,c9,rfl⟩:=own_slice hown'.1;obtain⟨d2,df,hm9⟩:=GBox.more HBOX.out HM4.out HK.out.1 hown' hgr;have df4:=df 4;have HM9:=Kh hm9;have HG9:=Kh ((grown_own HGW.out hgr HBB.out.symm (fun b hb=>own_ge HK.out.1 hb.symm)).trans (but_put w' gm 4 (.slice p9 ((fre ld n).length+1) c9)));clear hown' hgr hat hm9 df m4 m3)
    go_roundw
    case rel=>exact⟨n+1,by omega,by go_num,by rw[HFR.out,List.length_append,ints,List.map_append];exact HM9.out,HG9.out⟩
    case measure=>simp[intOf];omega
  ·obtain rfl:C=n:=by omega
   obtain⟨p,c4,m4,hK⟩:=HBOX.out.cj
   have HK:=Kh hK
   have hfl:=fre_length ld C
   obtain⟨F,hF⟩:∃ F,fre ld C=F:=⟨_,rfl⟩
   rw[hF]at HK m4 hfl
   have HFE:=Kh hF
   obtain⟨FL,hFL⟩:∃ n,F.length=n:=⟨_,rfl⟩
   rw[hFL]at HK m4 hfl
   have HFL:=Kh hFL
   have m5:=HBOX.out.cell 5 _ (by decide) rfl
   have m6:=HBOX.out.cell 6 _ (by decide) rfl
   have m7:=HBOX.out.cell 7 _ (by decide) rfl
   have f5:=HBOX.out.fr 5
   have f6:=HBOX.out.fr 6
   have f7:=HBOX.out.fr 7
   have M4:=Kh m4
   have M5:=Kh m5
   have M6:=Kh m6
   have M7:=Kh m7
   clear hK hF hFL
   go_upto_region 12 with(fail)
   obtain⟨wm,hwm⟩:∃ wm,((we.setCell ⟨gm,5,none⟩ (.int .i64 (C:Int))).setCell ⟨gm,6,none⟩ (.int .i64 (FL:Int))).setCell ⟨gm,7,none⟩ (.slice none 0 0)=wm:=⟨_,rfl⟩
   rw[hwm]
   have HG3:=Kh (show we.grownBy wm (some gm)from hwm▸((but_put we gm 5 _).trans (but_put _ gm 6 _)).trans (but_put _ gm 7 _))
   have HGM:=Kh (HGW.out.trans HG3.out)
   have hms:wm.heap.size=we.heap.size:=by rw[← hwm];simp
   obtain⟨B2,hB2⟩:∃ x,wm.heap.size=x:=⟨_,rfl⟩
   have HB2:=Kh hB2
   have HST:=Kh (show Stk NotU32 wm gm from hwm▸stk_put (stk_put (stk_put HBOX.out.stk _ _ (fun _ h=>by cases h)) _ _ (fun _ h=>by cases h)) _ _ (fun _ h=>by cases h))
   have HFK:=Kh (show OwnN F wm BB (.slice p FL c4)from by
    have h1:OwnI F we BB (.slice p FL c4):=by rw[OwnI,HFL.out];exact HK.out
    exact OwnN.but h1.ownN HG3.out (fun g e1 e2=>by
     injection e2 with e2
     have h2:=(h1.ge e1).1
     have h3:=HBOX.out.lt
     omega))
   have c0:=fun(i:Nat) (v:Value) (h5:i≠5) (h6:i≠6) (h7:i≠7) (h:we.cell? ⟨gm,i,none⟩=some v)=>show wm.cell? ⟨gm,i,none⟩=some v from by
    rw[← hwm,World.cell?_setCell_other _ _ _ _ (by simp <;> omega),World.cell?_setCell_other _ _ _ _ (by simp <;> omega),World.cell?_setCell_other _ _ _ _ (by simp <;> omega)]
    exact h
   have c7:wm.cell? ⟨gm,7,none⟩=some (.slice none 0 0):=by
    rw[← hwm]
    exact World.cell?_setCell_same' _ _ _ (some_put (some_put (by rw[M7.out];rfl)))
   have c6:wm.cell? ⟨gm,6,none⟩=some (.int .i64 (FL:Int)):=by
    rw[← hwm,World.cell?_setCell_other _ _ _ _ (by simp)]
    exact World.cell?_setCell_same' _ _ _ (some_put (by rw[M6.out];rfl))
   have c5:wm.cell? ⟨gm,5,none⟩=some (.int .i64 (C:Int)):=by
    rw[← hwm,World.cell?_setCell_other _ _ _ _ (by simp),World.cell?_setCell_other _ _ _ _ (by simp)]
    exact World.cell?_setCell_same' _ _ _ (by rw[M5.out];rfl)
   have HBX0:=Kh (show GBox NotInt 35 4 wm gm B2 7 0 [.int .i64 N,.int .i64 k,.int .i64 D,.int .i64 C,.slice p FL c4,.int .i64 C,.int .i64 FL,.slice none 0 0] []from
    ⟨hB2▸HST.out.1,Nat.le_of_eq hB2.symm,fun i v hi e=>by
     match i,e with
     | 0,e=>injection e with e;subst e;exact c0 0 _ (by decide) (by decide) (by decide) (HBOX.out.cell 0 _ (by decide) rfl)
     | 1,e=>injection e with e;subst e;exact c0 1 _ (by decide) (by decide) (by decide) (HBOX.out.cell 1 _ (by decide) rfl)
     | 2,e=>injection e with e;subst e;exact c0 2 _ (by decide) (by decide) (by decide) (HBOX.out.cell 2 _ (by decide) rfl)
     | 3,e=>injection e with e;subst e;exact c0 3 _ (by decide) (by decide) (by decide) (HBOX.out.cell 3 _ (by decide) rfl)
     | 4,e=>injection e with e;subst e;exact c0 4 _ (by decide) (by decide) (by decide) M4.out
     | 5,e=>injection e with e;subst e;exact c5
     | 6,e=>injection e with e;subst e;exact c6
     | 7,e=>exact absurd rfl hi,⟨none,0,c7,OwnK.nil _ _ _ _ _⟩,fun i=>by rw[← hwm];exact frozen_set (frozen_set (frozen_set (HBOX.out.fr i))),HST.out⟩)
   clear c0 c5 c6 c7 m3 m4 m5 m6 m7 f5 f6 f7 hms hB2 hwm
   obtain⟨Y,hY⟩:∃ Y:Nat→FP,Y=fun j=>IsQ (frQ ld O (j / FL) (F.getD (j % FL) 0)):=⟨_,rfl⟩
   have HY:=Kh hY
   have HYS:=Kh (show ∀ j,Solid (Y j)from fun j=>by rw[hY];exact IsQ.solid _)
   have HQ0:=Kh (show GQ Y wm gm B2 0 [.int .i64 N,.int .i64 k,.int .i64 D,.int .i64 C,.slice p FL c4,.int .i64 C,.int .i64 FL,.slice none 0 0]from⟨[],HBX0.out,fun j hj=>absurd hj (Nat.not_lt_zero _)⟩)
   have HFN:=Kh (show ∀ W,wm.grownBy W (some gm)→NL F W wm.heap.size (.slice p FL c4)from fun W hg=>HFK.out.nl.but hg (fun g e=>by
    have h2:=(HFK.out.ge e).1
    have h3:=HBOX.out.lt
    omega))
   clear hY HBX0
   go_wp2_with fail
   go_loopw [10] (fun vi wr=>∃ n m:Nat,n≤C∧m=n*FL∧vi=.int .i64 n∧GQ Y wr gm B2 m [.int .i64 N,.int .i64 k,.int .i64 D,.int .i64 C,.slice p FL c4,.int .i64 C,.int .i64 FL,.slice none 0 0]∧wm.grownBy wr (some gm)) (fun vi _=>C - (intOf vi).toNat)
   case atStart=>exact⟨0,0,Nat.zero_le _,(Nat.zero_mul _).symm,rfl,HQ0.out,but_below gm (Below.refl _ _)⟩
   case round=>
    obtain⟨n,m0,hn,hm0,rfl,hgq,hgw⟩:=hrel
    obtain⟨wo,rfl⟩:∃ wo:World,wo=wr:=⟨_,rfl⟩
    have HQO:=Kh hgq
    have HGO:=Kh hgw
    have HM0:=Kh hm0
    have m3:=hgq.cell 3 _ (by decide) rfl
    clear hgq hgw hm0 HQ0
    by_cases hnC:n<C
    ·have hni:(n:Int)<(C:Int):=by omega
     have HROW:=Kh (c_row41 (pvs ld C) (.slice pp P cp) n w6.heap.size wo (by
      have h1:=HOP6.out.nl.but (HGM.out.trans HGO.out) (fun g e=>by
       have h2:=(HOP6.out.ge e).1
       have h3:=HORD.out
       omega)
      rw[HP.out]at h1
      exact h1) (by rw[HP.out];omega) (by omega) HPV.out)
     go_wp2_with fail
     refine HROW.out.mono ?_
     rintro e w7 ⟨⟨r,rfl,hrow⟩,hw7⟩
     obtain rfl:wo=w7:=hw7.symm
     have HRW:=Kh hrow
     clear hrow m3
     go_wp2_with fail
     go_loopw [12] (fun vi wr=>∃ i m:Nat,i≤FL∧m=m0+i∧vi=.int .i64 i∧GQ Y wr gm B2 m [.int .i64 N,.int .i64 k,.int .i64 D,.int .i64 C,.slice p FL c4,.int .i64 C,.int .i64 FL,.slice none 0 0]∧wm.grownBy wr (some gm)) (fun vi _=>FL - (intOf vi).toNat)
     case atStart=>exact⟨0,m0,Nat.zero_le _,rfl,rfl,HQO.out,HGO.out⟩
     case round=>
      obtain⟨i,m,hi,hm,rfl,hgq,hgw⟩:=hrel
      obtain⟨wi,rfl⟩:∃ wi:World,wi=wr:=⟨_,rfl⟩
      have HQ:=Kh hgq
      have HGI:=Kh hgw
      have HMM:=Kh hm
      have k4:=hgq.cell 4 _ (by decide) rfl
      have K4:=Kh k4
      clear hgq hgw
      by_cases hiF:i<FL
      ·have hii:(i:Int)<(FL:Int):=by omega
       obtain⟨fq,hfq⟩:∃ x,F[i]?=some x:=⟨_,List.getElem?_eq_getElem (by rw[HFL.out];exact hiF)⟩
       obtain⟨gF,capF,eF,_,_,hgF,hrF⟩:=(HFN.out wi HGI.out).resolve_left (fun h=>by have h1:=HFL.out;rw[h.1]at h1;simp at h1;omega)
       rw[HFL.out]at eF
       injection eF with eF1 _ eF3
       subst eF1
       subst eF3
       have HFQ:=Kh hfq
       have HFC:=Kh (hrF i fq hfq)
       have hfC:fq<C:=by
        have h1:=List.mem_of_getElem? hfq
        rw[← HFE.out]at h1
        exact List.mem_range.1 (List.mem_filter.1 h1).1
       have HFLD:=Kh (show ld fq=false by
        have h1:=List.mem_of_getElem? hfq
        rw[← HFE.out]at h1
        have h2:=(List.mem_filter.1 h1).2
        simpa using h2)
       have hml:m+1≤100000:=by
        have h1:n*FL≤72*72:=Nat.mul_le_mul (by omega) (by omega)
        have h2:=HM0.out
        omega
       have HYM:=Kh (show Y m=IsQ (frQ ld O n fq)by
        rw[HY.out]
        show IsQ (frQ ld O (m / FL) (F.getD (m % FL) 0))=_
        obtain⟨e1,e2⟩:=at_rc (k:=n) hiF
        rw[HMM.out,HM0.out,e1,e2,List.getD_eq_getElem?_getD,HFQ.out]
        rfl)
       clear hfq hrF hm
       go_wp2_with fail
       refine(c_Q 0 wi (by omega) (by omega)).mono ?_
       rintro e w7 ⟨⟨s5,p5,n5,c5,t5,q5,u5,d5,rfl,hq7⟩,hb7⟩
       go_upto_region 20 with(fail)
       obtain⟨w8,hw8,X8,hb8⟩:=bx1 w7 #[.bool s5,.slice p5 n5 c5,.bool t5,.slice q5 u5 d5] 35
       rw[hw8]
       obtain⟨gx,hgx⟩:∃ x,w7.heap.size=x:=⟨_,rfl⟩
       rw[hgx]at X8 ⊢
       have HX8:=Kh X8
       have HB8:=Kh (hb7.trans (hb8.mono hb7.size))
       have HQ8:=Kh (show Qs w8 s5 p5 n5 c5 t5 q5 u5 d5 0 from hq7.keep hb8)
       have HGX:=Kh (show wi.heap.size≤gx from hgx▸hb7.size)
       clear hq7 hb7 hw8 X8 hb8 hgx
       cases hl:ld n with
       | true=>
        obtain⟨a,ra,ha⟩:∃ a:Nat,r=(a:Int)∧(pvs ld C)[a]?=some n:=by
         rcases HRW.out with⟨_,h⟩ |⟨a,h1,h2⟩
         ·exact absurd (pvs_mem.2 ⟨hnC,hl⟩) h
         ·exact⟨a,h1,h2⟩
        subst ra
        have haP:a<P:=by rw[← HP.out];exact(List.getElem?_eq_some_iff.1 ha).1
        have ha0:(0:Int)≤(a:Int):=by omega
        obtain⟨aC,haC⟩:∃ y,a*C=y:=⟨_,rfl⟩
        obtain⟨ix,hix⟩:∃ y,aC+fq=y:=⟨_,rfl⟩
        have hixl:ix<PC:=by rw[← hix,← haC,← HPC.out];exact ix_lt haP hfC
        have w1e:(a:Int)*(C:Int)=(aC:Nat):=by rw[← haC];push_cast;rfl
        have w2e:(aC:Int)+(fq:Int)=(ix:Nat):=by omega
        have v1:IntKind.i64.wrap (aC:Int)=(aC:Nat):=IntWalk.i64_in _ (by omega)
        have v2:IntKind.i64.wrap (ix:Int)=(ix:Nat):=IntWalk.i64_in _ (by omega)
        have i1:(ix:Int)<(PC:Int):=by omega
        obtain⟨gE,oE,capE,eE,hgE,hqE⟩:=HOA6.out.ql.resolve_left (fun h=>by have:=h.1;omega)
        injection eE with eE1 _ eE3
        subst eE1
        subst eE3
        have hgEm:w4.heap.size≤gE:=by
         obtain⟨xs,k1,_⟩:=HOA6.out
         exact own_ge k1.1 rfl
        have HG6:=Kh (HGM.out.trans HGI.out)
        have HI6:=Kh (show I32 w6 wi from but32 (Stk.of HM6.out (by intro v hv;simp at hv;rcases hv with rfl|rfl|rfl|rfl|rfl|rfl|rfl|rfl <;> exact fun _ h=>by cases h)) HG6.out)
        obtain⟨s1,p1,n1,c1,t1,q1,u1,d1,a0,a1,a2,a3,hz⟩:=QE.butQ (IsQ.solid _) (hqE ix hixl) HI6.out HG6.out (show gE≠gm by have:=HORD.out;omega)
        have HZ:=Kh (show Qs wi s1 p1 n1 c1 t1 q1 u1 d1 (O n fq)from by
         have h1:flatR ((pvs ld C).map O) C ix=O n fq:=by rw[← hix,← haC];exact flatR_at (by rw[List.getElem?_map,ha];rfl) hfC
         rw[← h1]
         exact hz)
        have HNS:=Kh (show hq (O n fq)≤1000000000 by
         have h1:=HGJ.out.out_size (by omega) (rowF_zero C f) hl fq
         have h2:=top_72 (n:=C) (B:=16777216) hC (Nat.le_refl _)
         omega)
        have HNG:=Kh (c_sNegQ s1 p1 n1 c1 t1 q1 u1 d1 (O n fq) w8.drew (HZ.out.keep HB8.out.drew) HNS.out)
        have HVAL:=Kh (show frQ ld O n fq=-(O n fq)by rw[frQ,if_pos hl])
        have g1:=HG6.out.cell (HX6.out.at_ 1 rfl) (fun e=>by injection e with e;have h1:=HORD.out;have h2:ge=gm:=e;omega)
        have g2:=HG6.out.cell (HX6.out.at_ 2 rfl) (fun e=>by injection e with e;have h1:=HORD.out;have h2:ge=gm:=e;omega)
        clear hz hqE hgE hgEm ha haC hix
        go_upto_region 21 with(fail)
        refine rgB (fun W=>W.cell? ⟨ge,1,none⟩=some (.int .i64 (C:Int))∧W.cell? ⟨ge,2,none⟩=some (.slice (some ⟨gE,oE,none⟩) PC cA2)∧W.cell? ⟨gm,4,none⟩=some (.slice (some ⟨gF,0,none⟩) FL c4)∧W.cell? ⟨gF,i,none⟩=some (.int .i64 (fq:Int))∧W.cell? ⟨gE,oE+ix*4,none⟩=some (.bool s1)∧W.cell? ⟨gE,oE+ix*4+1,none⟩=some (.slice p1 n1 c1)∧W.cell? ⟨gE,oE+ix*4+2,none⟩=some (.bool t1)∧W.cell? ⟨gE,oE+ix*4+3,none⟩=some (.slice q1 u1 d1)∧W.cell? ⟨gx,0,none⟩=some (.bool s5)∧W.frozen? ⟨gx,0,none⟩=false∧W.cell? ⟨gx,1,none⟩=some (.slice p5 n5 c5)∧W.frozen? ⟨gx,1,none⟩=false∧W.cell? ⟨gx,2,none⟩=some (.bool t5)∧W.frozen? ⟨gx,2,none⟩=false∧W.cell? ⟨gx,3,none⟩=some (.slice q5 u5 d5)∧W.frozen? ⟨gx,3,none⟩=false) (fun W hb=>⟨cnx hb (cell_next HB8.out g1),cnx hb (cell_next HB8.out g2),cnx hb (cell_next HB8.out K4.out),cnx hb (cell_next HB8.out HFC.out),cnx hb (cell_next HB8.out a0),cnx hb (cell_next HB8.out a1),cnx hb (cell_next HB8.out a2),cnx hb (cell_next HB8.out a3),cnx hb (HX8.out.at_ 0 rfl),frozen_keep hb (by rw[(HX8.out.at_ 0 rfl)];rfl) (HX8.out.free_ 0),cnx hb (HX8.out.at_ 1 rfl),frozen_keep hb (by rw[(HX8.out.at_ 1 rfl)];rfl) (HX8.out.free_ 1),cnx hb (HX8.out.at_ 2 rfl),frozen_keep hb (by rw[(HX8.out.at_ 2 rfl)];rfl) (HX8.out.free_ 2),cnx hb (HX8.out.at_ 3 rfl),frozen_keep hb (by rw[(HX8.out.at_ 3 rfl)];rfl) (HX8.out.free_ 3)⟩) (fun HSE hHeld0=>?_)
        clear g1 g2 a0 a1 a2 a3 k4
        refine tkE 0 ?_;refine tkE 1 ?_;refine tkE 2 ?_;refine tkE 3 ?_;refine tkE 4 ?_;refine tkE 5 ?_;refine tkE 6 ?_;refine tkE 7 ?_;refine tkE 8 ?_;refine tkE 9 ?_;refine tkE 10 ?_;refine tkE 11 ?_;refine tkE 12 ?_;refine tkE 13 ?_
        refine stE 14 rfl (fun K hK=>?_)
        focus(go_simp;(with_reducible refine HNG.out.mono ?_);rintro e w9 ⟨⟨s5,p5,n5,c5,t5,q5,u5,d5,rfl,hq9⟩,hb9'⟩;have hb9:Below w8.heap.size w8 w9:=(Below.refl _ w8).drew.trans hb9';have HK9:=Kh hb9;have HB9:=bt HB8 hb9;have HQ9:=Kh (show IsQ (-(O n fq)) w9 s5 p5 n5 c5 t5 q5 u5 d5 from hq9);have R4:=Kh (And.intro (cell_next hb9 (HX8.out.at_ 0 rfl)) (And.intro (cell_next hb9 (HX8.out.at_ 1 rfl)) (And.intro (cell_next hb9 (HX8.out.at_ 2 rfl)) (cell_next hb9 (HX8.out.at_ 3 rfl)))));have HST9:=Kh ((Stk.of (K:=NotU32) HX8.out (by intro v hv;simp at hv;rcases hv with rfl|rfl|rfl|rfl <;> exact fun _ h=>by cases h)).next hb9);clear hq9 hb9 hb9';(first|with_reducible refine hK.out _ _ ?_ (fun hHeld1=>?_) |(go_wp2_with fail;with_reducible refine hK.out _ _ ?_ (fun hHeld1=>?_))))
        focus((try dsimp only);exact HSE.out _ HK9.out)
        focus(clear hK K;(try simp only[Act.put,lsa,lsz,lss]))
        refine laE 15 rfl (fun K hK=>?_)
        go_simp
        refine hK.out _ _ ?_
        clear hK K
        (try simp only[Act.put,lsa,lsz,lss])
        have k4:=(HQ.out.keep HYS.out HB9.out).cell 4 _ (by decide) rfl
        go_upto_region 24 with(fail)
        obtain⟨wt,hwt⟩:∃ wt,(((w9.setCell ⟨gx,0,none⟩ (.bool s5)).setCell ⟨gx,1,none⟩ (.slice p5 n5 c5)).setCell ⟨gx,2,none⟩ (.bool t5)).setCell ⟨gx,3,none⟩ (.slice q5 u5 d5)=wt:=⟨_,rfl⟩
        rw[hwt]
        obtain⟨e0,e1,e2,e3⟩:=put4_at (w:=w9) (R:=gx) (v0:=.bool s5) (v1:=.slice p5 n5 c5) (v2:=.bool t5) (v3:=.slice q5 u5 d5) (by rw[R4.out.1];rfl) (by rw[R4.out.2.1];rfl) (by rw[R4.out.2.2.1];rfl) (by rw[R4.out.2.2.2];rfl)
        rw[hwt]at e0 e1 e2 e3
        have HGT:=Kh (show w9.grownBy wt (some gx)from hwt▸(((but_put w9 gx 0 _).trans (but_put _ gx 1 _)).trans (but_put _ gx 2 _)).trans (but_put _ gx 3 _))
        have HBT:=Kh (show Below wi.heap.size wi wt from below_but HB9.out HGT.out HB9.out.size HGX.out)
        have HQ5:=Kh (show Y m wt s5 p5 n5 c5 t5 q5 u5 d5 by rw[HYM.out,HVAL.out];exact HQ9.out.i32 (but32 HST9.out HGT.out))
        clear hwt
        obtain⟨xs,hGB,hQX⟩:=HQ.out.keep HYS.out HBT.out
        obtain⟨p7,cc7,m7,hK7⟩:=hGB.cj
        have HGB:=Kh hGB
        have HQX:=Kh hQX
        have HK7:=Kh hK7
        have HM7:=Kh m7
        have hB7:=hGB.hB
        clear hGB hQX hK7
        go_wp2_with (at_builtin;refine wpl_app2 NotInt rfl (.tmp 100) (.tmp 102) _ 35 rfl Tryz.underlying24 ratInfo rfl (by decide) B2 m (.slice p7 m cc7) xs [.bool s5,.slice p5 n5 c5,.bool t5,.slice q5 u5 d5] rfl HK7.out rfl rfl (one4 _ _ _ _ _ _ _ _) (by omega) (by omega) hB7 (ni4 _ _ _ _ _ _ _ _) niz ?_;intro v' w' hown' hgr hat;obtain⟨p9,c9,rfl,d2,df,hq9⟩:=GQ.push HYS.out HGB.out HQX.out HM7.out HK7.out HQ5.out hown' hgr;have df7:=df 7;have HQ9:=Kh hq9;have HG9:=Kh ((grown_own (HGI.out.trans (but_below gm HBT.out)) hgr HB2.out.symm (fun b hb=>own_ge HK7.out.1 hb.symm)).trans (but_put w' gm 7 (.slice p9 (m+1) c9)));clear hown' hgr hat hq9 df m7)
        go_roundw
        case rel=>exact⟨i+1,m+1,by omega,by have:=HMM.out;omega,by go_num,HQ9.out,HG9.out⟩
        case measure=>simp[intOf];omega
       | false=>
        obtain rfl:r=-1:=by
         rcases HRW.out with⟨h,_⟩ |⟨i,_,h⟩
         ·exact h
         ·have h2:=(pvs_mem.1 (List.mem_of_getElem? h)).2
          rw[hl]at h2
          cases h2
        have k4:=(HQ.out.keep HYS.out HB8.out).cell 4 _ (by decide) rfl
        have kF:=cell_next HB8.out HFC.out
        by_cases hfn:fq=n
        ·have hfi:((fq:Int)==(n:Int))=true:=by rw[hfn];exact beq_self_eq_true _
         have hfj:(fq:Int)=(n:Int):=by rw[hfn]
         have HVAL:=Kh (show frQ ld O n fq=1 by rw[frQ,hl,if_neg (by decide),if_pos hfn])
         clear hl hfn
         go_wp2_with fail
         refine(c_Q 1 w8 (by omega) (by omega)).mono ?_
         rintro e w9 ⟨⟨s5,p5,n5,c5,t5,q5,u5,d5,rfl,hq9⟩,hb9⟩
         have HB9:=bt HB8 hb9
         have HQ9:=Kh (show IsQ (1) w9 s5 p5 n5 c5 t5 q5 u5 d5 from hq9)
         have r0:=cell_next hb9 (HX8.out.at_ 0 rfl)
         have r1:=cell_next hb9 (HX8.out.at_ 1 rfl)
         have r2:=cell_next hb9 (HX8.out.at_ 2 rfl)
         have r3:=cell_next hb9 (HX8.out.at_ 3 rfl)
         have f0:=frozen_keep hb9 (by rw[HX8.out.at_ 0 rfl];rfl) (HX8.out.free_ 0)
         have f1:=frozen_keep hb9 (by rw[HX8.out.at_ 1 rfl];rfl) (HX8.out.free_ 1)
         have f2:=frozen_keep hb9 (by rw[HX8.out.at_ 2 rfl];rfl) (HX8.out.free_ 2)
         have f3:=frozen_keep hb9 (by rw[HX8.out.at_ 3 rfl];rfl) (HX8.out.free_ 3)
         have R4:=Kh (And.intro r0 (And.intro r1 (And.intro r2 r3)))
         have HST9:=Kh ((Stk.of (K:=NotU32) HX8.out (by intro v hv;simp at hv;rcases hv with rfl|rfl|rfl|rfl <;> exact fun _ h=>by cases h)).next hb9)
         have k4:=(HQ.out.keep HYS.out HB9.out).cell 4 _ (by decide) rfl
         clear hq9 hb9
         go_upto_region 24 with(fail)
         obtain⟨wt,hwt⟩:∃ wt,(((w9.setCell ⟨gx,0,none⟩ (.bool s5)).setCell ⟨gx,1,none⟩ (.slice p5 n5 c5)).setCell ⟨gx,2,none⟩ (.bool t5)).setCell ⟨gx,3,none⟩ (.slice q5 u5 d5)=wt:=⟨_,rfl⟩
         rw[hwt]
         obtain⟨e0,e1,e2,e3⟩:=put4_at (w:=w9) (R:=gx) (v0:=.bool s5) (v1:=.slice p5 n5 c5) (v2:=.bool t5) (v3:=.slice q5 u5 d5) (by rw[R4.out.1];rfl) (by rw[R4.out.2.1];rfl) (by rw[R4.out.2.2.1];rfl) (by rw[R4.out.2.2.2];rfl)
         rw[hwt]at e0 e1 e2 e3
         have HGT:=Kh (show w9.grownBy wt (some gx)from hwt▸(((but_put w9 gx 0 _).trans (but_put _ gx 1 _)).trans (but_put _ gx 2 _)).trans (but_put _ gx 3 _))
         have HBT:=Kh (show Below wi.heap.size wi wt from below_but HB9.out HGT.out HB9.out.size HGX.out)
         have HQ5:=Kh (show Y m wt s5 p5 n5 c5 t5 q5 u5 d5 by rw[HYM.out,HVAL.out];exact HQ9.out.i32 (but32 HST9.out HGT.out))
         clear hwt
         obtain⟨xs,hGB,hQX⟩:=HQ.out.keep HYS.out HBT.out
         obtain⟨p7,cc7,m7,hK7⟩:=hGB.cj
         have HGB:=Kh hGB
         have HQX:=Kh hQX
         have HK7:=Kh hK7
         have HM7:=Kh m7
         have hB7:=hGB.hB
         clear hGB hQX hK7
         go_wp2_with (at_builtin;refine wpl_app2 NotInt rfl (.tmp 100) (.tmp 102) _ 35 rfl Tryz.underlying24 ratInfo rfl (by decide) B2 m (.slice p7 m cc7) xs [.bool s5,.slice p5 n5 c5,.bool t5,.slice q5 u5 d5] rfl HK7.out rfl rfl (one4 _ _ _ _ _ _ _ _) (by omega) (by omega) hB7 (ni4 _ _ _ _ _ _ _ _) niz ?_;intro v' w' hown' hgr hat;obtain⟨p9,c9,rfl,d2,df,hq9⟩:=GQ.push HYS.out HGB.out HQX.out HM7.out HK7.out HQ5.out hown' hgr;have df7:=df 7;have HQ9:=Kh hq9;have HG9:=Kh ((grown_own (HGI.out.trans (but_below gm HBT.out)) hgr HB2.out.symm (fun b hb=>own_ge HK7.out.1 hb.symm)).trans (but_put w' gm 7 (.slice p9 (m+1) c9)));clear hown' hgr hat hq9 df m7)
         go_roundw
         case rel=>exact⟨i+1,m+1,by omega,by have:=HMM.out;omega,by go_num,HQ9.out,HG9.out⟩
         case measure=>simp[intOf];omega
        ·have hfi:((fq:Int)==(n:Int))=false:=by rw[beq_eq_false_iff_ne];omega
         have hfj:¬ (fq:Int)=(n:Int):=by omega
         have HVAL:=Kh (show frQ ld O n fq=0 by rw[frQ,hl,if_neg (by decide),if_neg hfn])
         clear hl hfn
         go_upto_region 24 with(fail)
         obtain⟨wt,hwt⟩:∃ wt:World,wt=w8:=⟨_,rfl⟩
         rw[← hwt]
         have HBT:=Kh (show Below wi.heap.size wi wt from hwt▸HB8.out)
         have HQ5:=Kh (show Y m wt s5 p5 n5 c5 t5 q5 u5 d5 by rw[hwt,HYM.out,HVAL.out];exact HQ8.out)
         have e0:wt.cell? ⟨gx,0,none⟩=some (.bool s5):=hwt▸HX8.out.at_ 0 rfl
         have e1:wt.cell? ⟨gx,1,none⟩=some (.slice p5 n5 c5):=hwt▸HX8.out.at_ 1 rfl
         have e2:wt.cell? ⟨gx,2,none⟩=some (.bool t5):=hwt▸HX8.out.at_ 2 rfl
         have e3:wt.cell? ⟨gx,3,none⟩=some (.slice q5 u5 d5):=hwt▸HX8.out.at_ 3 rfl
         clear hwt
         obtain⟨xs,hGB,hQX⟩:=HQ.out.keep HYS.out HBT.out
         obtain⟨p7,cc7,m7,hK7⟩:=hGB.cj
         have HGB:=Kh hGB
         have HQX:=Kh hQX
         have HK7:=Kh hK7
         have HM7:=Kh m7
         have hB7:=hGB.hB
         clear hGB hQX hK7
         go_wp2_with (at_builtin;refine wpl_app2 NotInt rfl (.tmp 100) (.tmp 102) _ 35 rfl Tryz.underlying24 ratInfo rfl (by decide) B2 m (.slice p7 m cc7) xs [.bool s5,.slice p5 n5 c5,.bool t5,.slice q5 u5 d5] rfl HK7.out rfl rfl (one4 _ _ _ _ _ _ _ _) (by omega) (by omega) hB7 (ni4 _ _ _ _ _ _ _ _) niz ?_;intro v' w' hown' hgr hat;obtain⟨p9,c9,rfl,d2,df,hq9⟩:=GQ.push HYS.out HGB.out HQX.out HM7.out HK7.out HQ5.out hown' hgr;have df7:=df 7;have HQ9:=Kh hq9;have HG9:=Kh ((grown_own (HGI.out.trans (but_below gm HBT.out)) hgr HB2.out.symm (fun b hb=>own_ge HK7.out.1 hb.symm)).trans (but_put w' gm 7 (.slice p9 (m+1) c9)));clear hown' hgr hat hq9 df m7)
         go_roundw
         case rel=>exact⟨i+1,m+1,by omega,by have:=HMM.out;omega,by go_num,HQ9.out,HG9.out⟩
         case measure=>simp[intOf];omega
      ·obtain rfl:i=FL:=by omega
       go_wp2
       go_roundw
       case rel=>exact⟨n+1,m,by omega,by rw[HMM.out,HM0.out,Nat.succ_mul],by go_num,HQ.out,HGI.out⟩
       case measure=>simp[intOf];omega
    ·obtain rfl:C=n:=by omega
     obtain⟨xs,hGB,hQX⟩:=HQO.out
     obtain⟨p7,cc7,m7,hK7⟩:=hGB.cj
     have HRES:=Kh (show OwnQ Y wo B2 (.slice p7 m0 cc7) m0 from⟨xs,hK7,hQX⟩)
     have HGM2:=Kh (show gr<B2∧gr<BB∧gm<BB∧B2≤wo.heap.size∧BB≤B2 by
      have h1:=hGB.lt
      have h2:=HBOX.out.lt
      have h3:=HORD.out
      have h4:=hGB.hB
      have h5:=HBOX.out.hB
      have h6:=HG3.out.size
      have h7:=HB2.out
      omega)
     have m0c:=hGB.cell 0 _ (by decide) rfl
     have m1c:=hGB.cell 1 _ (by decide) rfl
     have m2c:=hGB.cell 2 _ (by decide) rfl
     have m4c:=hGB.cell 4 _ (by decide) rfl
     have m5c:=hGB.cell 5 _ (by decide) rfl
     have m6c:=hGB.cell 6 _ (by decide) rfl
     have HGA:=Kh (HGM.out.trans HGO.out)
     have hgg:gr≠gm:=by have:=HORD.out;omega
     have hblk:=HGA.out.block gr HY6.out.lt (fun e=>by injection e with e;exact hgg e)
     have r0:=HGA.out.cell (HY6.out.at_ 0 rfl) (fun e=>by injection e with e;exact hgg e)
     have f0:=(World.frozen?_of_block (a:=⟨gr,0,none⟩) hblk).trans (HY6.out.free_ 0)
     have r1:=HGA.out.cell (HY6.out.at_ 1 rfl) (fun e=>by injection e with e;exact hgg e)
     have f1:=(World.frozen?_of_block (a:=⟨gr,1,none⟩) hblk).trans (HY6.out.free_ 1)
     have r2:=HGA.out.cell (HY6.out.at_ 2 rfl) (fun e=>by injection e with e;exact hgg e)
     have f2:=(World.frozen?_of_block (a:=⟨gr,2,none⟩) hblk).trans (HY6.out.free_ 2)
     have r3:=HGA.out.cell (HY6.out.at_ 3 rfl) (fun e=>by injection e with e;exact hgg e)
     have f3:=(World.frozen?_of_block (a:=⟨gr,3,none⟩) hblk).trans (HY6.out.free_ 3)
     have r4:=HGA.out.cell (HY6.out.at_ 4 rfl) (fun e=>by injection e with e;exact hgg e)
     have f4:=(World.frozen?_of_block (a:=⟨gr,4,none⟩) hblk).trans (HY6.out.free_ 4)
     have r5:=HGA.out.cell (HY6.out.at_ 5 rfl) (fun e=>by injection e with e;exact hgg e)
     have f5:=(World.frozen?_of_block (a:=⟨gr,5,none⟩) hblk).trans (HY6.out.free_ 5)
     have r6:=HGA.out.cell (HY6.out.at_ 6 rfl) (fun e=>by injection e with e;exact hgg e)
     have f6:=(World.frozen?_of_block (a:=⟨gr,6,none⟩) hblk).trans (HY6.out.free_ 6)
     have r7:=HGA.out.cell (HY6.out.at_ 7 rfl) (fun e=>by injection e with e;exact hgg e)
     have f7:=(World.frozen?_of_block (a:=⟨gr,7,none⟩) hblk).trans (HY6.out.free_ 7)
     have HST0:=Kh (show Stk NotU32 wo gr from by
      have hs:=Stk.of (K:=NotU32) HY6.out (by intro v hv;simp at hv;rcases hv with rfl|rfl|rfl|rfl|rfl|rfl|rfl|rfl <;> exact fun _ h=>by cases h)
      exact⟨Nat.lt_of_lt_of_le hs.1 HGA.out.size,fun i u hu=>hs.2 i u ((World.cell?_of_block (a:=⟨gr,i,none⟩) hblk).symm.trans hu)⟩)
     have HE8:=Kh (put8_at (w:=wo) (R:=gr) (v0:=.int .i64 N) (v1:=.int .i64 k) (v2:=.int .i64 D) (v3:=.int .i64 (C:Int)) (v4:=.slice p FL c4) (v5:=.int .i64 (C:Int)) (v6:=.int .i64 (FL:Int)) (v7:=.slice p7 m0 cc7) (fun i hi=>by
      match i,hi with
      | 0,_=>rw[r0];rfl
      | 1,_=>rw[r1];rfl
      | 2,_=>rw[r2];rfl
      | 3,_=>rw[r3];rfl
      | 4,_=>rw[r4];rfl
      | 5,_=>rw[r5];rfl
      | 6,_=>rw[r6];rfl
      | 7,_=>rw[r7];rfl
      |(i+8),h=>omega))
     have HG8:=Kh (put8_but (w:=wo) (R:=gr) (v0:=.int .i64 N) (v1:=.int .i64 k) (v2:=.int .i64 D) (v3:=.int .i64 (C:Int)) (v4:=.slice p FL c4) (v5:=.int .i64 (C:Int)) (v6:=.int .i64 (FL:Int)) (v7:=.slice p7 m0 cc7))
     have HBW:=Kh (show Below w.heap.size w wo from below_but HB6.out HGA.out HB6.out.size (by have h1:=HORD.out;have h2:=HBS.out;omega))
     clear hGB hQX hK7 hblk
     go_wp2
     obtain⟨e0,e1,e2,e3,e4,e5,e6,e7⟩:=HE8.out
     try simp only[Exit.inBlock,Exit.then]
     refine bodyPost_ret (by simp[results,Tryz.results20,go_sem,e0,e1,e2,e3,e4,e5,e6,e7];try rfl) rfl ?_
     refine⟨?_,?_⟩
     ·have hfe:frs (elim C (rowF C f) R) C=F:=by rw[← HFE.out];exact HGJ.out.frs_eq (by omega) (rowF_small HF.out) (rowF_zero C f) HFIN.out
      rw[hfe]
      refine⟨.slice p FL c4,.slice p7 m0 cc7,by rw[HFL.out],?_,?_⟩
      ·have h1:=(HFK.out.but HGO.out (fun g e1 e2=>by injection e2 with e2;have h2:=(HFK.out.ge e1).1;have h3:=HGM2.out;omega))
       have h2:=h1.but HG8.out (fun g e1 e2=>by injection e2 with e2;have h2:=(h1.ge e1).1;have h3:=HGM2.out;omega)
       exact h2.base (by have h1:=HGM2.out;have h2:=HBS.out;have h3:=HORD.out;have h4:=HBB.out;have h5:=HB6.out.size;omega)
      ·rw[HFL.out,← HM0.out]
       refine((HRES.out.box HYS.out (but32 HST0.out HG8.out) HG8.out HGM2.out.1).base (by have h1:=HGM2.out;have h4:=HBB.out;have h5:=HB6.out.size;omega)).imp (fun j hj s p n c t q u d h=>?_)
       rw[HY.out]at h
       have hFL0:0<FL:=by
        rcases Nat.eq_zero_or_pos FL with h|h
        ·have h1:=HM0.out
         rw[h,Nat.mul_zero]at h1
         omega
        ·exact h
       have hj2:j / FL<C:=by rw[Nat.div_lt_iff_lt_mul hFL0];have h1:=HM0.out;omega
       have hx:F.getD (j % FL) 0∈F:=by
        have h1:j % FL<F.length:=by rw[HFL.out];exact Nat.mod_lt _ hFL0
        rw[List.getD_eq_getElem?_getD,List.getElem?_eq_getElem h1]
        exact List.getElem_mem h1
       rw[← HFE.out]at hx
       obtain⟨k1,k2⟩:=List.mem_filter.1 hx
       rw[HFE.out]at k1 k2
       have h9:=HGJ.out.crd_eq (by omega) (rowF_small HF.out) (rowF_zero C f) HFIN.out hj2 (List.mem_range.1 k1) (by simpa using k2)
       rw[h9]
       exact h
     ·exact below_but HBW.out HG8.out HBW.out.size (by have:=HGR.out;omega)
end Go.Proofs.YthikonjlgljikaaGreatDoor
