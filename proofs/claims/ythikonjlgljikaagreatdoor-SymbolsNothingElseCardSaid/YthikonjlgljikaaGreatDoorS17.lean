/- Contracts of rational: Neg, Sub, Whole, Quo, Sign, for normalized fractions. -/
import Derived.Test.YthikonjlgljikaaGreatDoorS16
import Derived.Test.YthikonjlgljikaaGreatDoorS11
set_option linter.unusedSimpArgs false
set_option maxRecDepth 100000
set_option maxHeartbeats 8000000
namespace Go.Proofs.YthikonjlgljikaaGreatDoor
open Go.RowKit
theorem neg_over (x:Rat):Rat.divInt (-x.num) x.den=-x:=by
 rw[← Rat.neg_divInt,rat_self]
theorem quo_over (x y:Rat):Rat.divInt (x.num*y.den) (x.den*y.num)=x / y:=by
 rw[← Rat.divInt_mul_divInt,rat_self,Rat.div_def,Rat.inv_def]
theorem c_qSignQ (s:Bool) (p:Option Addr) (n c:Nat) (t:Bool) (q:Option Addr) (m d:Nat) (x:Rat) (w:World) (h:Qs w s p n c t q m d x) (hx:hq x≤1000000000):
  Calls Tryz.prog 64 #[.agg #[.bool s,.slice p n c,.bool t,.slice q m d]] w fun e w'=>RetSg e x∧Below w.heap.size w w':=by
 have h1:=c_qSign s p n c x.num t q m d x.den w h.1.raw h.2.raw (by have:=h.sizes;omega) (by have:=h.sizes;omega)
 rw[rat_self]at h1
 exact h1
theorem c_qNegQ (s:Bool) (p:Option Addr) (n c:Nat) (t:Bool) (q:Option Addr) (m d:Nat) (x:Rat) (w:World) (h:Qs w s p n c t q m d x) (hx:hq x≤1000000000):
  Calls Tryz.prog 57 #[.agg #[.bool s,.slice p n c,.bool t,.slice q m d]] w fun e w'=>RetQ w' e (-x)∧Below w.heap.size w w':=by
 have HV:=Kh (neg_over x)
 have HS:=Kh h.sizes
 have HS1:=Kh (show nd (-x.num).natAbs≤4398046511100 by rw[Int.natAbs_neg];have:=hq_num x;omega)
 have HD:=Kh (fun w1 (hb:Below w.heap.size w w1)=>h.2.keep hb)
 have HC1:=Kh (fun w1 (hb:Below w.heap.size w w1)=>c_Neg s p n c x.num w1 (h.1.keep hb).raw (by have:=HS.out;omega))
 clear h
 go_enter Tryz.func57,Tryz.ntmps57
 go_upto_region 1 with(fail)
 obtain⟨w0,hw0,X0,X1,hb0⟩:=bx2 w #[.bool s,.slice p n c,.bool t,.slice q m d] 35 #[.bool false,.slice none 0 0,.bool false,.slice none 0 0] 35
 rw[hw0]
 have hs0:w.heap.size≤w0.heap.size:=hb0.size
 clear hw0
 have M1:True:=trivial
 have T1:=Sts.of X1 (by intro v hv;simp at hv;rcases hv with rfl|rfl|rfl|rfl <;> first|exact NotInt.bool _|exact NotInt.slice _ _ _)
 have hS0:=S4_4_next (Below.refl _ w0).drew ⟨X0.c0,X0.c1,X0.c2,X0.c3,X1.so 0,X1.free_ 0,T1,X1.so 1,X1.free_ 1,T1,X1.so 2,X1.free_ 2,T1,X1.so 3,X1.free_ 3,T1,hb0,hs0⟩
 clear X0 X1
 go_region_held3 (fun w1=>w1.cell? ⟨w.heap.size,0,none⟩=some (.bool s)∧w1.cell? ⟨w.heap.size,1,none⟩=some (.slice p n c)∧w1.cell? ⟨w.heap.size,2,none⟩=some (.bool t)∧w1.cell? ⟨w.heap.size,3,none⟩=some (.slice q m d)∧w1.cell? ⟨w.heap.size+1,0,none⟩=some (cellOf w1 ⟨w.heap.size+1,0,none⟩)∧w1.frozen? ⟨w.heap.size+1,0,none⟩=false∧Sts w1 (w.heap.size+1)∧w1.cell? ⟨w.heap.size+1,1,none⟩=some (cellOf w1 ⟨w.heap.size+1,1,none⟩)∧w1.frozen? ⟨w.heap.size+1,1,none⟩=false∧Sts w1 (w.heap.size+1)∧w1.cell? ⟨w.heap.size+1,2,none⟩=some (cellOf w1 ⟨w.heap.size+1,2,none⟩)∧w1.frozen? ⟨w.heap.size+1,2,none⟩=false∧Sts w1 (w.heap.size+1)∧w1.cell? ⟨w.heap.size+1,3,none⟩=some (cellOf w1 ⟨w.heap.size+1,3,none⟩)∧w1.frozen? ⟨w.heap.size+1,3,none⟩=false∧Sts w1 (w.heap.size+1)∧Below w.heap.size w w1∧w.heap.size≤w1.heap.size)
  (first|with_reducible exact hS0 |(refine S4_4_next (by with_reducible assumption) ?_;assumption) |(refine S4_4_put ?_ ?_ ?_ ?_ ?_ ?_ ?_ ?_ ?_ ?_ ?_ ?_ ?_ ?_ ?_ ?_ ?_ ?_ ?_ ?_ ?_ ?_ ?_ ?_ ?_ <;> first|assumption|exact NotInt.bool _|exact NotInt.slice _ _ _ |(dsimp only;omega) |(simp;done)))
  (first
   |(go_at_call 103;refine(HC1.out _ (S4_4_below (by with_reducible assumption))).mono ?_;rintro e w2 ⟨⟨s2,p2,n2,e2,rfl,hz2⟩,hb2⟩;have HZ2:=Kh hz2;have HB2:=Kh (show Below w.heap.size w w2 from Below.trans (S4_4_below (by with_reducible assumption)) (Below.mono hb2 (Below.size (S4_4_below (by with_reducible assumption)))));have HOV:=Kh (c_over s2 p2 n2 e2 (-x.num) t q m d x.den w2 HZ2.out.raw (HD.out _ HB2.out).raw (by rw[← HZ2.out.2.1];exact HS1.out) (by have:=HS.out;omega));clear hz2)
   |(go_at_call 77;refine HOV.out.mono ?_;rintro e w4 ⟨⟨s4,p4,n4,e4,t4,q4,m4,d4,rfl,hq4⟩,hb4⟩;clear hb2;obtain⟨⟨hR0,hT⟩,⟨hR1,_⟩,⟨hR2,_⟩,⟨hR3,_⟩⟩:=S4_4_end hb4 (by with_reducible assumption);have hq5:=Kh (hq4.put4 hT (.bool s4) (.slice p4 n4 e4) (.bool t4) (.slice q4 m4 d4) (NotInt.bool _) (NotInt.slice _ _ _) (NotInt.bool _));clear hq4 hT))
 go_wp2
 try simp only[Exit.inBlock,Exit.then]
 refine bodyPost_ret (by simp[results,Tryz.results57,go_sem,hR0,hR1,hR2,hR3];try rfl) rfl ?_
 exact⟨⟨s4,p4,n4,e4,t4,q4,m4,d4,rfl,HV.out▸hq5.out⟩,S4_4_below (by assumption)⟩
theorem c_qSubQ (s:Bool) (p:Option Addr) (n c:Nat) (t:Bool) (q:Option Addr) (m d:Nat) (x:Rat) (s':Bool) (p':Option Addr) (n' c':Nat) (t':Bool) (q':Option Addr) (m' d':Nat) (y:Rat) (w:World) (h:Qs w s p n c t q m d x) (h':Qs w s' p' n' c' t' q' m' d' y) (hx:hq x≤1000000000) (hy:hq y≤1000000000):
  Calls Tryz.prog 37 #[.agg #[.bool s,.slice p n c,.bool t,.slice q m d],.agg #[.bool s',.slice p' n' c',.bool t',.slice q' m' d']] w fun e w'=>RetQ w' e (x - y)∧Below w.heap.size w w':=by
 have HV:=Kh (Rat.sub_eq_add_neg x y).symm
 have HY:=Kh (show hq (-y)≤1000000000 by rw[hq,Rat.neg_num,Rat.neg_den,Int.natAbs_neg];exact hy)
 have HD:=Kh (fun w1 (hb:Below w.heap.size w w1)=>h.keep hb)
 have HC1:=Kh (fun w1 (hb:Below w.heap.size w w1)=>c_qNegQ s' p' n' c' t' q' m' d' y w1 (h'.keep hb) hy)
 clear h h'
 go_enter Tryz.func37,Tryz.ntmps37
 go_upto_region 1 with(fail)
 obtain⟨w0,hw0,X0,X1,X2,hb0⟩:=bx3 w #[.bool s,.slice p n c,.bool t,.slice q m d] 35 #[.bool s',.slice p' n' c',.bool t',.slice q' m' d'] 35 #[.bool false,.slice none 0 0,.bool false,.slice none 0 0] 35
 rw[hw0]
 have hs0:w.heap.size≤w0.heap.size:=hb0.size
 clear hw0
 have M1:True:=trivial
 have T2:=Sts.of X2 (by intro v hv;simp at hv;rcases hv with rfl|rfl|rfl|rfl <;> first|exact NotInt.bool _|exact NotInt.slice _ _ _)
 have hS0:=S8_4_next (Below.refl _ w0).drew ⟨X0.c0,X0.c1,X0.c2,X0.c3,X1.c0,X1.c1,X1.c2,X1.c3,X2.so 0,X2.free_ 0,T2,X2.so 1,X2.free_ 1,T2,X2.so 2,X2.free_ 2,T2,X2.so 3,X2.free_ 3,T2,hb0,hs0⟩
 clear X0 X1 X2
 go_region_held3 (fun w1=>w1.cell? ⟨w.heap.size,0,none⟩=some (.bool s)∧w1.cell? ⟨w.heap.size,1,none⟩=some (.slice p n c)∧w1.cell? ⟨w.heap.size,2,none⟩=some (.bool t)∧w1.cell? ⟨w.heap.size,3,none⟩=some (.slice q m d)∧w1.cell? ⟨w.heap.size+1,0,none⟩=some (.bool s')∧w1.cell? ⟨w.heap.size+1,1,none⟩=some (.slice p' n' c')∧w1.cell? ⟨w.heap.size+1,2,none⟩=some (.bool t')∧w1.cell? ⟨w.heap.size+1,3,none⟩=some (.slice q' m' d')∧w1.cell? ⟨w.heap.size+1+1,0,none⟩=some (cellOf w1 ⟨w.heap.size+1+1,0,none⟩)∧w1.frozen? ⟨w.heap.size+1+1,0,none⟩=false∧Sts w1 (w.heap.size+1+1)∧w1.cell? ⟨w.heap.size+1+1,1,none⟩=some (cellOf w1 ⟨w.heap.size+1+1,1,none⟩)∧w1.frozen? ⟨w.heap.size+1+1,1,none⟩=false∧Sts w1 (w.heap.size+1+1)∧w1.cell? ⟨w.heap.size+1+1,2,none⟩=some (cellOf w1 ⟨w.heap.size+1+1,2,none⟩)∧w1.frozen? ⟨w.heap.size+1+1,2,none⟩=false∧Sts w1 (w.heap.size+1+1)∧w1.cell? ⟨w.heap.size+1+1,3,none⟩=some (cellOf w1 ⟨w.heap.size+1+1,3,none⟩)∧w1.frozen? ⟨w.heap.size+1+1,3,none⟩=false∧Sts w1 (w.heap.size+1+1)∧Below w.heap.size w w1∧w.heap.size≤w1.heap.size)
  (first|with_reducible exact hS0 |(refine S8_4_next (by with_reducible assumption) ?_;assumption) |(refine S8_4_put ?_ ?_ ?_ ?_ ?_ ?_ ?_ ?_ ?_ ?_ ?_ ?_ ?_ ?_ ?_ ?_ ?_ ?_ ?_ ?_ ?_ ?_ ?_ ?_ ?_ ?_ ?_ ?_ ?_ ?_ ?_ ?_ ?_ ?_ ?_ ?_ ?_ ?_ ?_ ?_ ?_ <;> first|assumption|exact NotInt.bool _|exact NotInt.slice _ _ _ |(dsimp only;omega) |(simp;done)))
  (first
   |(go_at_call 57;refine(HC1.out _ (S8_4_below (by with_reducible assumption))).mono ?_;rintro e w2 ⟨⟨s2,p2,n2,e2,t2,q2,m2,d2,rfl,hz2⟩,hb2⟩;have HZ2:=Kh hz2;have HB2:=Kh (show Below w.heap.size w w2 from Below.trans (S8_4_below (by with_reducible assumption)) (Below.mono hb2 (Below.size (S8_4_below (by with_reducible assumption)))));have HOV:=Kh (c_qAddQ s p n c t q m d x s2 p2 n2 e2 t2 q2 m2 d2 (-y) w2 (HD.out _ HB2.out) HZ2.out hx HY.out);clear hz2)
   |(go_at_call 76;refine HOV.out.mono ?_;rintro e w4 ⟨⟨s4,p4,n4,e4,t4,q4,m4,d4,rfl,hq4⟩,hb4⟩;clear hb2;obtain⟨⟨hR0,hT⟩,⟨hR1,_⟩,⟨hR2,_⟩,⟨hR3,_⟩⟩:=S8_4_end hb4 (by with_reducible assumption);have hq5:=Kh (hq4.put4 hT (.bool s4) (.slice p4 n4 e4) (.bool t4) (.slice q4 m4 d4) (NotInt.bool _) (NotInt.slice _ _ _) (NotInt.bool _));clear hq4 hT))
 go_wp2
 try simp only[Exit.inBlock,Exit.then]
 refine bodyPost_ret (by simp[results,Tryz.results37,go_sem,hR0,hR1,hR2,hR3];try rfl) rfl ?_
 exact⟨⟨s4,p4,n4,e4,t4,q4,m4,d4,rfl,HV.out▸hq5.out⟩,S8_4_below (by assumption)⟩
theorem c_qWhole (s:Bool) (p:Option Addr) (n c:Nat) (z:Int) (w:World) (h:Zs w s p n c z) (hn:n≤1000000000):
  Calls Tryz.prog 100 #[.agg #[.bool s,.slice p n c]] w fun e w'=>RetQ w' e (z:Rat)∧Below w.heap.size w w':=by
 have HC:=Kh (fun w1 (hb:Below w.heap.size w w1)=>c_Normal s p n c z w1 (h.keep hb).raw (by omega))
 have HO:=Kh (fun w1=>c_Of 1 w1 (by omega) (by omega))
 clear h
 go_enter Tryz.func100,Tryz.ntmps100
 go_wp2_with fail
 obtain⟨w0,hw0,X1,X0,hb0⟩:=bx2 w #[.bool s,.slice p n c] 33 #[.bool false,.slice none 0 0,.bool false,.slice none 0 0] 35
 rw[hw0]
 have HX0:=Kh X0
 have HB0:=Kh hb0
 clear X0 X1 hb0 hw0
 refine(HC.out _ HB0.out).mono ?_
 rintro e w1 ⟨⟨s2,p2,n2,e2,rfl,hz2⟩,hb1⟩
 have HZ2:=Kh hz2
 have HB1:=bt HB0 hb1
 replace HX0:=Kh (bk HX0 hb1)
 clear hz2 hb1 HC
 go_wp2_with fail
 refine(HO.out _).mono ?_
 rintro e w2 ⟨⟨t2,q2,m2,d2,rfl,hz3⟩,hb2⟩
 have HQ:=Kh (show Qs w2 s2 p2 n2 e2 t2 q2 m2 d2 (z:Rat)from⟨HZ2.out.keep hb2,hz3⟩)
 have HR:=Kh (bk HX0 hb2)
 have HB:=bt HB1 hb2
 clear hz3 hb2 HX0 HB1 HZ2 HO HB0
 have r0:=HR.out.at_ 0 rfl
 have r1:=HR.out.at_ 1 rfl
 have r2:=HR.out.at_ 2 rfl
 have r3:=HR.out.at_ 3 rfl
 have f0:=HR.out.free_ 0
 have f1:=HR.out.free_ 1
 have f2:=HR.out.free_ 2
 have f3:=HR.out.free_ 3
 obtain⟨w9,hw9⟩:∃ w9,(((w2.setCell ⟨w.heap.size+1,0,none⟩ (.bool s2)).setCell ⟨w.heap.size+1,1,none⟩ (.slice p2 n2 e2)).setCell ⟨w.heap.size+1,2,none⟩ (.bool t2)).setCell ⟨w.heap.size+1,3,none⟩ (.slice q2 m2 d2)=w9:=⟨_,rfl⟩
 obtain⟨E0,E1,E2,E3,hq9⟩:=rat_put HR.out HQ.out hw9
 have hb9:Below w.heap.size w w9:=by rw[← hw9];exact below_putR HB.out (by omega) _ _ _ _
 have HW9:=Kh hw9
 have HE9:=Kh (And.intro E0 (And.intro E1 (And.intro E2 E3)))
 have HQ9:=Kh hq9
 have HB9:=Kh hb9
 clear E0 E1 E2 E3 hq9 hb9 hw9 HQ HB HR
 go_wp2
 try rw[HW9.out]
 obtain⟨E0,E1,E2,E3⟩:=HE9.out
 try simp only[Exit.inBlock,Exit.then]
 refine bodyPost_ret (by simp[results,Tryz.results100,go_sem,E0,E1,E2,E3];try rfl) rfl ?_
 exact⟨⟨s2,p2,n2,e2,t2,q2,m2,d2,rfl,HQ9.out⟩,HB9.out⟩
theorem c_qQuoQ (s:Bool) (p:Option Addr) (n c:Nat) (t:Bool) (q:Option Addr) (m d:Nat) (x:Rat) (s':Bool) (p':Option Addr) (n' c':Nat) (t':Bool) (q':Option Addr) (m' d':Nat) (y:Rat) (w:World) (h:Qs w s p n c t q m d x) (h':Qs w s' p' n' c' t' q' m' d' y) (hx:hq x≤1000000000) (hy:hq y≤1000000000) (h0:y≠0):
  Calls Tryz.prog 102 #[.agg #[.bool s,.slice p n c,.bool t,.slice q m d],.agg #[.bool s',.slice p' n' c',.bool t',.slice q' m' d']] w fun e w'=>(∃ s4 p4 n4 c4 t4 q4 m4 d4,e=.returned (.tuple #[.agg #[.bool s4,.slice p4 n4 c4,.bool t4,.slice q4 m4 d4],.int .i64 0])∧Qs w' s4 p4 n4 c4 t4 q4 m4 d4 (x / y))∧Below w.heap.size w w':=by
 have HV:=Kh (quo_over x y)
 have HS:=Kh (And.intro h.sizes h'.sizes)
 have HS1:=Kh (show nd (x.num*y.den).natAbs≤4398046511100 by rw[Int.natAbs_mul,Int.natAbs_natCast];have:=nd_mul x.num.natAbs y.den;have:=hq_num x;have:=hq_den y;omega)
 have HS2:=Kh (show nd (x.den*y.num).natAbs≤4398046511100 by rw[Int.natAbs_mul,Int.natAbs_natCast];have:=nd_mul x.den y.num.natAbs;have:=hq_den x;have:=hq_num y;omega)
 have HSG:=Kh (fun w1 (hb:Below w.heap.size w w1)=>c_qSignQ s' p' n' c' t' q' m' d' y w1 (h'.keep hb) hy)
 have HC1:=Kh (fun w1 (hb:Below w.heap.size w w1)=>c_Mul s p n c x.num t' q' m' d' y.den w1 (h.1.keep hb).raw (h'.2.keep hb).raw (by have:=HS.out;omega) (by have:=HS.out;omega))
 have HC2:=Kh (fun w1 (hb:Below w.heap.size w w1)=>c_Mul t q m d x.den s' p' n' c' y.num w1 (h.2.keep hb).raw (h'.1.keep hb).raw (by have:=HS.out;omega) (by have:=HS.out;omega))
 clear h h'
 go_enter Tryz.func102,Tryz.ntmps102
 go_wp2_with fail
 obtain⟨w0,hw0,X0,X1,X2,hb0⟩:=bx3 w #[.bool s,.slice p n c,.bool t,.slice q m d] 35 #[.bool s',.slice p' n' c',.bool t',.slice q' m' d'] 35 #[.bool false,.slice none 0 0,.bool false,.slice none 0 0] 35
 rw[hw0]
 have hs0:w.heap.size≤w0.heap.size:=hb0.size
 clear hw0
 have HX0:=Kh X0
 have HX1:=Kh X1
 have HX2:=Kh X2
 have HB0:=Kh hb0
 clear X0 X1 X2 hb0 hs0
 have r0:=HX1.out.at_ 0 rfl
 have r1:=HX1.out.at_ 1 rfl
 have r2:=HX1.out.at_ 2 rfl
 have r3:=HX1.out.at_ 3 rfl
 go_wp2_with fail
 refine(HSG.out _ HB0.out).mono ?_
 rintro e w1 ⟨⟨sg,rfl,hsg⟩,hb1⟩
 have hsg0:(sg==0)=false:=by
  have:sg≠0:=fun e=>h0 (hsg.1 e)
  simpa using this
 have hb0:=HB0.out.trans (hb1.mono HB0.out.size)
 have hs0:=hb0.size
 have X0:=bk HX0 hb1
 have X1:=bk HX1 hb1
 have X2:=bk HX2 hb1
 clear HSG HX0 HX1 HX2 HB0 hb1 hsg r0 r1 r2 r3
 obtain⟨w0,rfl⟩:∃ w0:World,w0=w1:=⟨_,rfl⟩
 go_upto_region 3 with(fail)
 have M1:True:=trivial
 have T2:=Sts.of X2 (by intro v hv;simp at hv;rcases hv with rfl|rfl|rfl|rfl <;> first|exact NotInt.bool _|exact NotInt.slice _ _ _)
 have hS0:=S8_4_next (Below.refl _ w0).drew ⟨X0.c0,X0.c1,X0.c2,X0.c3,X1.c0,X1.c1,X1.c2,X1.c3,X2.so 0,X2.free_ 0,T2,X2.so 1,X2.free_ 1,T2,X2.so 2,X2.free_ 2,T2,X2.so 3,X2.free_ 3,T2,hb0,hs0⟩
 clear X0 X1 X2
 go_region_held3 (fun w1=>w1.cell? ⟨w.heap.size,0,none⟩=some (.bool s)∧w1.cell? ⟨w.heap.size,1,none⟩=some (.slice p n c)∧w1.cell? ⟨w.heap.size,2,none⟩=some (.bool t)∧w1.cell? ⟨w.heap.size,3,none⟩=some (.slice q m d)∧w1.cell? ⟨w.heap.size+1,0,none⟩=some (.bool s')∧w1.cell? ⟨w.heap.size+1,1,none⟩=some (.slice p' n' c')∧w1.cell? ⟨w.heap.size+1,2,none⟩=some (.bool t')∧w1.cell? ⟨w.heap.size+1,3,none⟩=some (.slice q' m' d')∧w1.cell? ⟨w.heap.size+1+1,0,none⟩=some (cellOf w1 ⟨w.heap.size+1+1,0,none⟩)∧w1.frozen? ⟨w.heap.size+1+1,0,none⟩=false∧Sts w1 (w.heap.size+1+1)∧w1.cell? ⟨w.heap.size+1+1,1,none⟩=some (cellOf w1 ⟨w.heap.size+1+1,1,none⟩)∧w1.frozen? ⟨w.heap.size+1+1,1,none⟩=false∧Sts w1 (w.heap.size+1+1)∧w1.cell? ⟨w.heap.size+1+1,2,none⟩=some (cellOf w1 ⟨w.heap.size+1+1,2,none⟩)∧w1.frozen? ⟨w.heap.size+1+1,2,none⟩=false∧Sts w1 (w.heap.size+1+1)∧w1.cell? ⟨w.heap.size+1+1,3,none⟩=some (cellOf w1 ⟨w.heap.size+1+1,3,none⟩)∧w1.frozen? ⟨w.heap.size+1+1,3,none⟩=false∧Sts w1 (w.heap.size+1+1)∧Below w.heap.size w w1∧w.heap.size≤w1.heap.size)
  (first|with_reducible exact hS0 |(refine S8_4_next (by with_reducible assumption) ?_;assumption) |(refine S8_4_put ?_ ?_ ?_ ?_ ?_ ?_ ?_ ?_ ?_ ?_ ?_ ?_ ?_ ?_ ?_ ?_ ?_ ?_ ?_ ?_ ?_ ?_ ?_ ?_ ?_ ?_ ?_ ?_ ?_ ?_ ?_ ?_ ?_ ?_ ?_ ?_ ?_ ?_ ?_ ?_ ?_ <;> first|assumption|exact NotInt.bool _|exact NotInt.slice _ _ _ |(dsimp only;omega) |(simp;done)))
  (first
   |(go_at_call 78;clear M1;refine(HC1.out _ (S8_4_below (by with_reducible assumption))).mono ?_;rintro e w2 ⟨⟨s2,p2,n2,e2,rfl,hz2⟩,hb2⟩;have HZ2:=Kh hz2;clear hz2)
   |(go_at_call 78;refine(HC2.out _ (S8_4_below (by with_reducible assumption))).mono ?_;rintro e w3 ⟨⟨s3,p3,n3,e3,rfl,hz3⟩,hb3⟩;have HOV:=Kh (c_over s2 p2 n2 e2 (x.num*y.den) s3 p3 n3 e3 (x.den*y.num) w3 (HZ2.out.keep hb3).raw hz3.raw (by rw[← HZ2.out.2.1];exact HS1.out) (by rw[← hz3.2.1];exact HS2.out));clear hz3 hb2 HZ2)
   |(go_at_call 77;refine HOV.out.mono ?_;rintro e w4 ⟨⟨s4,p4,n4,e4,t4,q4,m4,d4,rfl,hq4⟩,hb4⟩;clear hb3;obtain⟨⟨hR0,hT⟩,⟨hR1,_⟩,⟨hR2,_⟩,⟨hR3,_⟩⟩:=S8_4_end hb4 (by with_reducible assumption);have hq5:=Kh (hq4.put4 hT (.bool s4) (.slice p4 n4 e4) (.bool t4) (.slice q4 m4 d4) (NotInt.bool _) (NotInt.slice _ _ _) (NotInt.bool _));clear hq4 hT))
 go_wp2
 try simp only[Exit.inBlock,Exit.then]
 refine bodyPost_ret (by simp[results,Tryz.results102,go_sem,hR0,hR1,hR2,hR3];try rfl) rfl ?_
 exact⟨⟨s4,p4,n4,e4,t4,q4,m4,d4,rfl,HV.out▸hq5.out⟩,S8_4_below (by assumption)⟩
theorem cnx {w w':World} {a:Addr} {v:Value} (hb:Below w.heap.size w w') (h:w.cell? a=some v):w'.cell? a=some v:=(hb.cell (p:=a) (World.block_lt_of_cell? w a h)).trans h
section
variable {P:Program} {md:Region.Mode} {ops:Array Oper} {Q:Exit→Act→World→Prop} {S:World→Prop}
def fullE (ops:Array Oper) (listed:Array Bool):Bool:=(List.range ops.size).all fun k=>listed.getD k true
def waitE (md:Region.Mode) (ops:Array Oper) (listed:Array Bool) (i:Nat):Bool:=
 (List.range ops.size).any fun k=>k != i && !(listed.getD k true)&&match ops[k]? with
  | some o=>o.after.any fun e=>Region.binds md e&&e.on==i
  | none=>false
theorem not_full {listed:Array Bool} {k:Nat} (hk:k<ops.size) (h:listed.getD k true=false):fullE ops listed=false:=by
 cases e:fullE ops listed with
 | false=>rfl
 | true=>
  rw[fullE,List.all_eq_true]at e
  have h1:=e k (List.mem_range.2 hk)
  rw[h]at h1
  cases h1
def wpE (P:Program) (md:Region.Mode) (ops:Array Oper) (Q:Exit→Act→World→Prop) (S:World→Prop):Nat→Array Bool→Act→World→Prop
 | 0,listed,a,w=>Region.ready md ops listed=[]∧Q .normal a w
 | n+1,listed,a,w=>(Region.ready md ops listed=[]→Q .normal a w) ∧
  ∀ i∈Region.ready md ops listed,wpOp P ops Q i (fun a' w'=>(fullE ops (listed.setIfInBounds i true)=false→S w')∧wpE P md ops Q S n (listed.setIfInBounds i true) a' w') a w
theorem wpE.any:∀ (n:Nat) (listed:Array Bool) (a:Act) (w:World),wpE P md ops Q S n listed a w→wpAny P md ops Q n listed a w
 | 0,_,_,_,h=>h
 | n+1,_,_,_,h=>⟨h.1,fun i hi=>wpOp_mono (fun a' w' h'=>wpE.any n _ a' w' h'.2) (h.2 i hi)⟩
theorem wpE.first {i k:Nat} {oi ok:Oper} {v:Value} (hi:ops[i]?=some oi) (hk:ops[k]?=some ok) (hki:k≠i) (hw:∃ e∈ok.after,Region.binds md e=true∧e.on=i)
  (hsel:∀ (j:Nat) (o:Oper) cs b,ops[j]?=some o→o.op≠.select cs b) (hQ:∀ c a w,Q (.panic c) (a.put oi.dst v) w→Q (.panic c) a w):
  ∀ (n:Nat) (listed:Array Bool) (a:Act) (w:World),
   (∀ j oj,ops[j]?=some oj→j≠i→listed.getD j true=false→(∀ e∈oj.after,Region.binds md e=true→e.on≠i)→oi.apart ops oj=true) →
   listed.getD k true=false→i∈Region.ready md ops listed→YieldsIf P ops S oi v a→S w →
   wpE P md ops Q S n (listed.setIfInBounds i true) (a.put oi.dst v) w→wpE P md ops Q S (n+1) listed a w:=by
 intro n
 induction n with
 | zero=>
  intro listed a w _ _ hr hy hS H
  refine⟨(fun h=>by rw[h]at hr;cases hr),fun j hj=>?_⟩
  by_cases hji:j=i
  ·subst hji;exact hy.wpOp hi hS ⟨fun _=>hS,H⟩
  ·have h1:=ready_mono hj hji
   rw[H.1]at h1
   cases h1
 | succ n ih=>
  intro listed a w hfree hkl hr hy hS H
  refine⟨(fun h=>by rw[h]at hr;cases hr),fun j hj=>?_⟩
  by_cases hji:j=i
  ·subst hji;exact hy.wpOp hi hS ⟨fun _=>hS,H⟩
  have h1:=H.2 j (ready_mono hj hji)
  obtain⟨hjl,oj,hoj,hall⟩:=mem_ready.1 hj
  have hin:listed.getD i false=false:=by
   have h0:=(mem_ready.1 hr).1
   rcases Nat.lt_or_ge i listed.size with h2|h2
   ·simp[h2]at h0 ⊢;exact h0
   ·simp[Array.getElem?_eq_none h2]
  have hno:∀ e∈oj.after,Region.binds md e=true→e.on≠i:=fun e he hb h2=>by
   have h3:=hall e he hb
   rw[h2,hin]at h3
   cases h3
  have hjk:j≠k:=fun h2=>by
   subst h2
   rw[hoj]at hk
   cases hk
   obtain⟨e,he,hb,h3⟩:=hw
   exact hno e he hb h3
  have hnf:∀ l:Array Bool,l.getD k true=false→fullE ops l=false:=fun l hl=>not_full (Array.getElem?_eq_some_iff.1 hk).1 hl
  have hkl2:(listed.setIfInBounds j true).getD k true=false:=by rw[getD_set_ne true hjk];exact hkl
  have h2:=wpOp_putIf hoj (hfree j oj hoj hji hjl hno) (fun cs b=>hsel i oi cs b hi) (fun cs b=>hsel j oj cs b hoj) hQ hy h1
  refine wpOp_mono (fun a' w' h3=>?_) h2
  have hS':S w':=h3.2.1 (hnf _ (by rw[getD_set_ne true hjk,getD_set_ne true hki.symm];exact hkl))
  refine⟨fun _=>hS',ih _ a' w' (fun q oq hq hqi hql hqn=>hfree q oq hq hqi ?_ hqn) hkl2 (ready_mono hr (Ne.symm hji)) h3.1 hS' ?_⟩
  ·by_cases hjq:j=q
   ·subst hjq;exact hjl
   ·rw[getD_set_ne true hjq]at hql;exact hql
  ·rw[Array.setIfInBounds_comm _ _ hji]
   exact h3.2.2
theorem waitE_spec {listed:Array Bool} {i:Nat} (h:waitE md ops listed i=true):∃ k ok,ops[k]?=some ok∧k≠i∧listed.getD k true=false∧∃ e∈ok.after,Region.binds md e=true∧e.on=i:=by
 rw[waitE,List.any_eq_true]at h
 obtain⟨k,_,h⟩:=h
 cases hk:ops[k]? with
 | none=>rw[hk]at h;simp at h
 | some o=>
  rw[hk]at h
  simp only[Bool.and_eq_true,bne_iff_ne,ne_eq,Bool.not_eq_true',beq_iff_eq,Array.any_eq_true']at h
  obtain⟨⟨h1,h2⟩,e,h3,h4,h5⟩:=h
  exact⟨k,o,hk,h1,h2,e,h3,h4,h5⟩
theorem rgE {id:Nat} {a:Act} {w:World} (S:World→Prop) (hS:S w.drew) (h:S w.drew→wpE P .any ops Q S ops.size (Array.replicate ops.size false) a w.drew) (hm:P.follows .mixedOrders=true:=by kernel_rfl):(Code.region id ops true).wp P Q a w:=
 wp_region_any hm (wpE.any _ _ _ _ (h hS))
theorem rgB {id:Nat} {a:Act} {w:World} (S:World→Prop) (hS:∀ W,Below w.heap.size w W→S W) (h:Hid (∀ W,Below w.heap.size w W→S W)→S w.drew→wpE P .any ops Q S ops.size (Array.replicate ops.size false) a w.drew) (hm:P.follows .mixedOrders=true:=by kernel_rfl):(Code.region id ops true).wp P Q a w:=
 rgE S (hS _ (Below.refl _ w).drew) (h (Lib.hid hS)) hm
theorem tkE (i:Nat) {oi:Oper} {v:Value} {n:Nat} {listed:Array Bool} {a a':Act} {w:World} (h:wpE P md ops Q S n (listed.setIfInBounds i true) a' w)
  (hi:ops[i]?=some oi:=by rfl) (hS:S w:=by assumption) (hw:Region.wanted oi (yielded ops a.tmps)=true:=by rfl)
  (hy:∀ w,S w→(execOp a.eval oi).run P w=.ok (.value v) w:=by intro w hSw;(try dsimp only at hSw);go_simp;(try with_reducible rfl))
  (ha:a.put oi.dst v=a':=by(try simp only[Act.put,List.setIfInBounds_toArray,List.set_cons_zero,List.set_cons_succ]);rfl)
  (hs:Region.noSelect ops=true:=by kernel_rfl) (hf:Region.free md ops listed i=true:=by kernel_rfl) (hr:(Region.ready md ops listed).contains i=true:=by kernel_rfl) (hk:waitE md ops listed i=true:=by kernel_rfl)
  (hQ:∀ c a w,Q (.panic c) (a.put oi.dst v) w→Q (.panic c) a w:=by exact fun _ _ _ h=>h):wpE P md ops Q S (n+1) listed a w:=by
 subst ha
 obtain⟨k,ok,h1,h2,h3,h4⟩:=waitE_spec hk
 exact wpE.first hi h1 h2 h4 (Region.noSelect_spec hs) hQ n listed a w (Region.free_spec hi hf) h3 (by simpa using hr) (.inl ⟨hw,hy⟩) hS h
theorem stE (i:Nat) {o:Oper} {n:Nat} {listed:Array Bool} {a:Act} {w:World}
  (ho:ops[i]?=some o) (h:∀ K':Act→World→Prop,Shut (∀ a w,S w→(S w→wpE P md ops Q S n (listed.setIfInBounds i true) a w)→K' a w)→if Region.wanted o (yielded ops a.tmps)=true then Oper.wp P o a w K' Q else K' (a.put o.dst undef) w)
  (hr:Region.ready md ops listed=[i]:=by kernel_rfl):wpE P md ops Q S (n+1) listed a w:=by
 refine⟨(fun e=>by rw[hr]at e;cases e),fun j hj=>?_⟩
 rw[hr,List.mem_singleton]at hj
 subst hj
 refine wpOp_step ho fun K' hK=>?_
 exact h K' fun a w hS hW=>hK a w ⟨fun _=>hS,hW hS⟩
theorem laE (i:Nat) {o:Oper} {n:Nat} {listed:Array Bool} {a:Act} {w:World}
  (ho:ops[i]?=some o) (h:∀ K':Act→World→Prop,Shut (∀ a w,Q .normal a w→K' a w)→if Region.wanted o (yielded ops a.tmps)=true then Oper.wp P o a w K' Q else K' (a.put o.dst undef) w)
  (hr:Region.ready md ops listed=[i]:=by kernel_rfl)
  (hn:Region.ready md ops (listed.setIfInBounds i true)=[]:=by kernel_rfl) (hl:fullE ops (listed.setIfInBounds i true)=true:=by kernel_rfl):wpE P md ops Q S (n+1) listed a w:=by
 refine⟨(fun e=>by rw[hr]at e;cases e),fun j hj=>?_⟩
 rw[hr,List.mem_singleton]at hj
 subst hj
 refine wpOp_step ho fun K' hK=>?_
 refine h K' fun a w hq=>hK a w ⟨(fun e=>by rw[hl]at e;cases e),?_⟩
 cases n with
 | zero=>exact⟨hn,hq⟩
 | succ n=>exact⟨fun _=>hq,fun j hj=>by rw[hn]at hj;cases hj⟩
end
theorem lsa {α:Type _} (l:List α) (i:Nat) (v:α):l.toArray.setIfInBounds i v=(l.set i v).toArray:=List.setIfInBounds_toArray ..
theorem lsz {α:Type _} (a v:α) (l:List α):(a :: l).set 0 v=v :: l:=List.set_cons_zero
theorem lss {α:Type _} (a v:α) (l:List α) (n:Nat):(a :: l).set (n+1) v=a :: l.set n v:=List.set_cons_succ
/-! Everything but one block stays -/
theorem but_below {w w':World} (g:Nat) (h:Below w.heap.size w w'):w.grownBy w' (some g):=⟨h.os,h.tape,h.output,h.size,fun k hk _=>h.block k hk⟩
theorem but_put (w:World) (g i:Nat) (v:Value):w.grownBy (w.setCell ⟨g,i,none⟩ v) (some g):=
 ⟨rfl,rfl,rfl,by simp,fun k hk hne=>Below.heap_setCell w ⟨g,i,none⟩ v k (fun e=>hne (by rw[e]))⟩
theorem but_put4 (w:World) (g i j k l:Nat) (v0 v1 v2 v3:Value):w.grownBy ((((w.setCell ⟨g,i,none⟩ v0).setCell ⟨g,j,none⟩ v1).setCell ⟨g,k,none⟩ v2).setCell ⟨g,l,none⟩ v3) (some g):=
 (((but_put w g i v0).trans (but_put _ g j v1)).trans (but_put _ g k v2)).trans (but_put _ g l v3)
theorem I32.but {w w':World} {g:Nat} (hs:Sts w g) (h:w.grownBy w' (some g)):I32 w w':=
 ⟨h.size,fun g' i n e=>h.cell e (fun e2=>by
  injection e2 with e2
  exact hs.2 i _ (by rw[← e2];exact e) _ _ rfl)⟩
theorem QE.but {P:FP} (hP:Solid P) {w w':World} {g g' i:Nat} (hs:Sts w g) (h:w.grownBy w' (some g)) (hne:g'≠g) (hq:QE P w g' i):QE P w' g' i:=by
 obtain⟨s,p,n,c,t,q,m,d,h0,h1,h2,h3,h4⟩:=hq
 have hk:∀ j v,w.cell? ⟨g',j,none⟩=some v→w'.cell? ⟨g',j,none⟩=some v:=fun j v e=>h.cell e (fun e2=>by injection e2 with e2;exact hne e2)
 exact⟨s,p,n,c,t,q,m,d,hk _ _ h0,hk _ _ h1,hk _ _ h2,hk _ _ h3,hP _ _ _ _ _ _ _ _ _ _ (I32.but hs h) h4⟩
def PL (g:Nat) (f:Nat→Rat) (w:World) (v:Value) (n:Nat):Prop:=∃ g' cap,v=.slice (some ⟨g',0,none⟩) n cap∧g<g'∧g'<w.heap.size∧∀ j,j<n→QE (IsQ (f j)) w g' (j*4)
theorem PL.keep {g:Nat} {f:Nat→Rat} {w w':World} {v:Value} {n:Nat} (h:PL g f w v n) (hb:Below w.heap.size w w'):PL g f w' v n:=by
 obtain⟨g',cap,e,h1,h2,h3⟩:=h
 exact⟨g',cap,e,h1,Nat.lt_of_lt_of_le h2 hb.size,fun j hj=>(h3 j hj).keep (IsQ.solid _) hb⟩
theorem PL.but {g:Nat} {f:Nat→Rat} {w w':World} {v:Value} {n:Nat} (h:PL g f w v n) (hs:Sts w g) (hb:w.grownBy w' (some g)):PL g f w' v n:=by
 obtain⟨g',cap,e,h1,h2,h3⟩:=h
 exact⟨g',cap,e,h1,Nat.lt_of_lt_of_le h2 hb.size,fun j hj=>(h3 j hj).but (IsQ.solid _) hs hb (by omega)⟩
theorem PL.ql {g:Nat} {f:Nat→Rat} {w:World} {v:Value} {n:Nat} (h:PL g f w v n):QL (fun j=>IsQ (f j)) w v n:=by
 obtain⟨g',cap,e,h1,h2,h3⟩:=h
 exact .inr ⟨g',0,cap,e,h2,fun j hj=>by rw[Nat.zero_add];exact h3 j hj⟩
theorem PL.congr {g:Nat} {f f':Nat→Rat} {w:World} {v:Value} {n:Nat} (h:PL g f w v n) (e:∀ j,j<n→f j=f' j):PL g f' w v n:=by
 obtain⟨g',cap,e',h1,h2,h3⟩:=h
 exact⟨g',cap,e',h1,h2,fun j hj=>by rw[← e j hj];exact h3 j hj⟩
theorem below_but {B:Nat} {b w w':World} {g:Nat} (h:Below B b w) (hg:w.grownBy w' (some g)) (h1:B≤w.heap.size) (h2:B≤g):Below B b w':=h.grown hg h1 (fun k hk=>by injection hk with hk;omega)
theorem nd64 {a:Int} (h:-1073741824≤a) (h':a≤1073741824):nd a.natAbs≤2:=nd_le.2 (show a.natAbs<4294967296 ^ 2 by omega)
theorem ZE.but {z:Int} {w w':World} {g g' i:Nat} (hs:Sts w g) (h:w.grownBy w' (some g)) (hne:g'≠g) (hq:ZE z w g' i):ZE z w' g' i:=by
 obtain⟨s,p,n,c,h0,h1,h4⟩:=hq
 have hk:∀ j v,w.cell? ⟨g',j,none⟩=some v→w'.cell? ⟨g',j,none⟩=some v:=fun j v e=>h.cell e (fun e2=>by injection e2 with e2;exact hne e2)
 exact⟨s,p,n,c,hk _ _ h0,hk _ _ h1,h4.i32 (I32.but hs h)⟩
def Cells2 (w:World) (g i:Nat) (s:Bool) (p:Option Addr) (n c:Nat):Prop:=w.cell? ⟨g,i,none⟩=some (.bool s)∧w.cell? ⟨g,i+1,none⟩=some (.slice p n c)
theorem Cells2.keep {w w':World} {g i:Nat} {s:Bool} {p:Option Addr} {n c:Nat} (h:Cells2 w g i s p n c) (hb:Below w.heap.size w w'):Cells2 w' g i s p n c:=by
 have hk:∀ j v,w.cell? ⟨g,j,none⟩=some v→w'.cell? ⟨g,j,none⟩=some v:=fun j v e=>(hb.cell (p:=⟨g,j,none⟩) (World.block_lt_of_cell? w ⟨g,j,none⟩ e)).trans e
 exact⟨hk _ _ h.1,hk _ _ h.2⟩
theorem but_put2 (w:World) (g i j:Nat) (v0 v1:Value):w.grownBy ((w.setCell ⟨g,i,none⟩ v0).setCell ⟨g,j,none⟩ v1) (some g):=(but_put w g i v0).trans (but_put _ g j v1)
end Go.Proofs.YthikonjlgljikaaGreatDoor
