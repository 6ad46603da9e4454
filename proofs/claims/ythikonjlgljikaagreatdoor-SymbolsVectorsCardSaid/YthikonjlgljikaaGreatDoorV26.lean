/- Contracts of rational: Neg, Sub, Whole, Quo, Sign, for normalized fractions. -/
import Derived.Test.YthikonjlgljikaaGreatDoorV25
import Derived.Test.YthikonjlgljikaaGreatDoorV23
set_option linter.unusedSimpArgs false
set_option maxRecDepth 100000
set_option maxHeartbeats 8000000
namespace Go.Proofs.YthikonjlgljikaaGreatDoor
open Go.RowKit
theorem neg_over (x:Rat):Rat.divInt (-x.num) x.den=-x:=by
 rw[← Rat.neg_divInt,rat_self]
theorem quo_over (x y:Rat):Rat.divInt (x.num*y.den) (x.den*y.num)=x / y:=by
 rw[← Rat.divInt_mul_divInt,rat_self,Rat.div_def,Rat.inv_def]
theorem c_qSignQ (s:Bool) (p:Option Addr) (n c:Nat) (t:Bool) (q:Option Addr) (m d:Nat) (x:Rat) (w:World) (h:Qs w s p n c t q m d x) (hx:hq x≤1000000000):
  Calls Tryz.prog 64 #[.agg #[.bool s,.slice p n c,.bool t,.slice q m d]] w fun e w'=>RetSg e x∧Below w.heap.size w w':=by
 have h1:=c_qSign s p n c x.num t q m d x.den w h.1.raw h.2.raw (by have:=h.sizes;omega) (by have:=h.sizes;omega)
 rw[rat_self]at h1
 exact h1
theorem c_qNegQ (s:Bool) (p:Option Addr) (n c:Nat) (t:Bool) (q:Option Addr) (m d:Nat) (x:Rat) (w:World) (h:Qs w s p n c t q m d x) (hx:hq x≤1000000000):
  Calls Tryz.prog 57 #[.agg #[.bool s,.slice p n c,.bool t,.slice q m d]] w fun e w'=>RetQ w' e (-x)∧Below w.heap.size w w':=by
 have HV:=Kh (neg_over x)
 have HS:=Kh h.sizes
 have HS1:=Kh (show nd (-x.num).natAbs≤4398046511100 by rw[Int.natAbs_neg];have:=hq_num x;omega)
 have HD:=Kh (fun w1 (hb:Below w.heap.size w w1)=>h.2.keep hb)
 have HC1:=Kh (fun w1 (hb:Below w.heap.size w w1)=>c_Neg s p n c x.num w1 (h.1.keep hb).raw (by have:=HS.out;omega))
 clear h
 go_enter Tryz.func57,Tryz.ntmps57
 go_upto_region 1 with(fail)
 obtain⟨w0,hw0,X0,X1,hb0⟩:=bx2 w #[.bool s,.slice p n c,.bool t,.slice q m d] 35 #[.bool false,.slice none 0 0,.bool false,.slice none 0 0] 35
 rw[hw0]
 have hs0:w.heap.size≤w0.heap.size:=hb0.size
 clear hw0
 have M1:True:=trivial
 have T1:=Sts.of X1 (by intro v hv;simp at hv;rcases hv with rfl|rfl|rfl|rfl <;> first|exact NotInt.bool _|exact NotInt.slice _ _ _)
 have hS0:=S4_4_next (Below.refl _ w0).drew ⟨X0.c0,X0.c1,X0.c2,X0.c3,X1.so 0,X1.free_ 0,T1,X1.so 1,X1.free_ 1,T1,X1.so 2,X1.free_ 2,T1,X1.so 3,X1.free_ 3,T1,hb0,hs0⟩
 clear X0 X1
 go_region_held3 (fun w1=>w1.cell? ⟨w.heap.size,0,none⟩=some (.bool s)∧w1.cell? ⟨w.heap.size,1,none⟩=some (.slice p n c)∧w1.cell? ⟨w.heap.size,2,none⟩=some (.bool t)∧w1.cell? ⟨w.heap.size,3,none⟩=some (.slice q m d)∧w1.cell? ⟨w.heap.size+1,0,none⟩=some (cellOf w1 ⟨w.heap.size+1,0,none⟩)∧w1.frozen? ⟨w.heap.size+1,0,none⟩=false∧Sts w1 (w.heap.size+1)∧w1.cell? ⟨w.heap.size+1,1,none⟩=some (cellOf w1 ⟨w.heap.size+1,1,none⟩)∧w1.frozen? ⟨w.heap.size+1,1,none⟩=false∧Sts w1 (w.heap.size+1)∧w1.cell? ⟨w.heap.size+1,2,none⟩=some (cellOf w1 ⟨w.heap.size+1,2,none⟩)∧w1.frozen? ⟨w.heap.size+1,2,none⟩=false∧Sts w1 (w.heap.size+1)∧w1.cell? ⟨w.heap.size+1,3,none⟩=some (cellOf w1 ⟨w.heap.size+1,3,none⟩)∧w1.frozen? ⟨w.heap.size+1,3,none⟩=false∧Sts w1 (w.heap.size+1)∧Below w.heap.size w w1∧w.heap.size≤w1.heap.size)
  (first|with_reducible exact hS0 |(refine S4_4_next (by with_reducible assumption) ?_;assumption) |(refine S4_4_put ?_ ?_ ?_ ?_ ?_ ?_ ?_ ?_ ?_ ?_ ?_ ?_ ?_ ?_ ?_ ?_ ?_ ?_ ?_ ?_ ?_ ?_ ?_ ?_ ?_ <;> first|assumption|exact NotInt.bool _|exact NotInt.slice _ _ _ |(dsimp only;omega) |(simp;done)))
  (first
   |(go_at_call 103;refine(HC1.out _ (S4_4_below (by with_reducible assumption))).mono ?_;rintro e w2 ⟨⟨s2,p2,n2,e2,rfl,hz2⟩,hb2⟩;have HZ2:=Kh hz2;have HB2:=Kh (show Below w.heap.size w w2 from Below.trans (S4_4_below (by with_reducible assumption)) (Below.mono hb2 (Below.size (S4_4_below (by with_reducible assumption)))));have HOV:=Kh (c_over s2 p2 n2 e2 (-x.num) t q m d x.den w2 HZ2.out.raw (HD.out _ HB2.out).raw (by rw[← HZ2.out.2.1];exact HS1.out) (by have:=HS.out;omega));clear hz2)
   |(go_at_call 77;refine HOV.out.mono ?_;rintro e w4 ⟨⟨s4,p4,n4,e4,t4,q4,m4,d4,rfl,hq4⟩,hb4⟩;clear hb2;obtain⟨⟨hR0,hT⟩,⟨hR1,_⟩,⟨hR2,_⟩,⟨hR3,_⟩⟩:=S4_4_end hb4 (by with_reducible assumption);have hq5:=Kh (hq4.put4 hT (.bool s4) (.slice p4 n4 e4) (.bool t4) (.slice q4 m4 d4) (NotInt.bool _) (NotInt.slice _ _ _) (NotInt.bool _));clear hq4 hT))
 go_wp2
 try simp only[Exit.inBlock,Exit.then]
 refine bodyPost_ret (by simp[results,Tryz.results57,go_sem,hR0,hR1,hR2,hR3];try rfl) rfl ?_
 exact⟨⟨s4,p4,n4,e4,t4,q4,m4,d4,rfl,HV.out▸hq5.out⟩,S4_4_below (by assumption)⟩
theorem c_qSubQ (s:Bool) (p:Option Addr) (n c:Nat) (t:Bool) (q:Option Addr) (m d:Nat) (x:Rat) (s':Bool) (p':Option Addr) (n' c':Nat) (t':Bool) (q':Option Addr) (m' d':Nat) (y:Rat) (w:World) (h:Qs w s p n c t q m d x) (h':Qs w s' p' n' c' t' q' m' d' y) (hx:hq x≤1000000000) (hy:hq y≤1000000000):
  Calls Tryz.prog 37 #[.agg #[.bool s,.slice p n c,.bool t,.slice q m d],.agg #[.bool s',.slice p' n' c',.bool t',.slice q' m' d']] w fun e w'=>RetQ w' e (x - y)∧Below w.heap.size w w':=by
 have HV:=Kh (Rat.sub_eq_add_neg x y).symm
 have HY:=Kh (show hq (-y)≤1000000000 by rw[hq,Rat.neg_num,Rat.neg_den,Int.natAbs_neg];exact hy)
 have HD:=Kh (fun w1 (hb:Below w.heap.size w w1)=>h.keep hb)
 have HC1:=Kh (fun w1 (hb:Below w.heap.size w w1)=>c_qNegQ s' p' n' c' t' q' m' d' y w1 (h'.keep hb) hy)
 clear h h'
 go_enter Tryz.func37,Tryz.ntmps37
 go_upto_region 1 with(fail)
 obtain⟨w0,hw0,X0,X1,X2,hb0⟩:=bx3 w #[.bool s,.slice p n c,.bool t,.slice q m d] 35 #[.bool s',.slice p' n' c',.bool t',.slice q' m' d'] 35 #[.bool false,.slice none 0 0,.bool false,.slice none 0 0] 35
 rw[hw0]
 have hs0:w.heap.size≤w0.heap.size:=hb0.size
 clear hw0
 have M1:True:=trivial
 have T2:=Sts.of X2 (by intro v hv;simp at hv;rcases hv with rfl|rfl|rfl|rfl <;> first|exact NotInt.bool _|exact NotInt.slice _ _ _)
 have hS0:=S8_4_next (Below.refl _ w0).drew ⟨X0.c0,X0.c1,X0.c2,X0.c3,X1.c0,X1.c1,X1.c2,X1.c3,X2.so 0,X2.free_ 0,T2,X2.so 1,X2.free_ 1,T2,X2.so 2,X2.free_ 2,T2,X2.so 3,X2.free_ 3,T2,hb0,hs0⟩
 clear X0 X1 X2
 go_region_held3 (fun w1=>w1.cell? ⟨w.heap.size,0,none⟩=some (.bool s)∧w1.cell? ⟨w.heap.size,1,none⟩=some (.slice p n c)∧w1.cell? ⟨w.heap.size,2,none⟩=some (.bool t)∧w1.cell? ⟨w.heap.size,3,none⟩=some (.slice q m d)∧w1.cell? ⟨w.heap.size+1,0,none⟩=some (.bool s')∧w1.cell? ⟨w.heap.size+1,1,none⟩=some (.slice p' n' c')∧w1.cell? ⟨w.heap.size+1,2,none⟩=some (.bool t')∧w1.cell? ⟨w.heap.size+1,3,none⟩=some (.slice q' m' d')∧w1.cell? ⟨w.heap.size+1+1,0,none⟩=some (cellOf w1 ⟨w.heap.size+1+1,0,none⟩)∧w1.frozen? ⟨w.heap.size+1+1,0,none⟩=false∧Sts w1 (w.heap.size+1+1)∧w1.cell? ⟨w.heap.size+1+1,1,none⟩=some (cellOf w1 ⟨w.heap.size+1+1,1,none⟩)∧w1.frozen? ⟨w.heap.size+1+1,1,none⟩=false∧Sts w1 (w.heap.size+1+1)∧w1.cell? ⟨w.heap.size+1+1,2,none⟩=some (cellOf w1 ⟨w.heap.size+1+1,2,none⟩)∧w1.frozen? ⟨w.heap.size+1+1,2,none⟩=false∧Sts w1 (w.heap.size+1+1)∧w1.cell? ⟨w.heap.size+1+1,3,none⟩=some (cellOf w1 ⟨w.heap.size+1+1,3,none⟩)∧w1.frozen? ⟨w.heap.size+1+1,3,none⟩=false∧Sts w1 (w.heap.size+1+1)∧Below w.heap.size w w1∧w.heap.size≤w1.heap.size)
  (first|with_reducible exact hS0 |(refine S8_4_next (by with_reducible assumption) ?_;assumption) |(refine S8_4_put ?_ ?_ ?_ ?_ ?_ ?_ ?_ ?_ ?_ ?_ ?_ ?_ ?_ ?_ ?_ ?_ ?_ ?_ ?_ ?_ ?_ ?_ ?_ ?_ ?_ ?_ ?_ ?_ ?_ ?_ ?_ ?_ ?_ ?_ ?_ ?_ ?_ ?_ ?_ ?_ ?_ <;> first|assumption|exact NotInt.bool _|exact NotInt.slice _ _ _ |(dsimp only;omega) |(simp;done)))
  (first
   |(go_at_call 57;refine(HC1.out _ (S8_4_below (by with_reducible assumption))).mono ?_;rintro e w2 ⟨⟨s2,p2,n2,e2,t2,q2,m2,d2,rfl,hz2⟩,hb2⟩;have HZ2:=Kh hz2;have HB2:=Kh (show Below w.heap.size w w2 from Below.trans (S8_4_below (by with_reducible assumption)) (Below.mono hb2 (Below.size (S8_4_below (by with_reducible assumption)))));have HOV:=Kh (c_qAddQ s p n c t q m d x s2 p2 n2 e2 t2 q2 m2 d2 (-y) w2 (HD.out _ HB2.out) HZ2.out hx HY.out);clear hz2)
   |(go_at_call 76;refine HOV.out.mono ?_;rintro e w4 ⟨⟨s4,p4,n4,e4,t4,q4,m4,d4,rfl,hq4⟩,hb4⟩;clear hb2;obtain⟨⟨hR0,hT⟩,⟨hR1,_⟩,⟨hR2,_⟩,⟨hR3,_⟩⟩:=S8_4_end hb4 (by with_reducible assumption);have hq5:=Kh (hq4.put4 hT (.bool s4) (.slice p4 n4 e4) (.bool t4) (.slice q4 m4 d4) (NotInt.bool _) (NotInt.slice _ _ _) (NotInt.bool _));clear hq4 hT))
 go_wp2
 try simp only[Exit.inBlock,Exit.then]
 refine bodyPost_ret (by simp[results,Tryz.results37,go_sem,hR0,hR1,hR2,hR3];try rfl) rfl ?_
 exact⟨⟨s4,p4,n4,e4,t4,q4,m4,d4,rfl,HV.out▸hq5.out⟩,S8_4_below (by assumption)⟩
theorem c_qWhole (s:Bool) (p:Option Addr) (n c:Nat) (z:Int) (w:World) (h:Zs w s p n c z) (hn:n≤1000000000):
  Calls Tryz.prog 100 #[.agg #[.bool s,.slice p n c]] w fun e w'=>RetQ w' e (z:Rat)∧Below w.heap.size w w':=by
 have HC:=Kh (fun w1 (hb:Below w.heap.size w w1)=>c_Normal s p n c z w1 (h.keep hb).raw (by omega))
 have HO:=Kh (fun w1=>c_Of 1 w1 (by omega) (by omega))
 clear h
 go_enter Tryz.func100,Tryz.ntmps100
 go_wp2_with fail
 obtain⟨w0,hw0,X1,X0,hb0⟩:=bx2 w #[.bool s,.slice p n c] 33 #[.bool false,.slice none 0 0,.bool false,.slice none 0 0] 35
 rw[hw0]
 have HX0:=Kh X0
 have HB0:=Kh hb0
 clear X0 X1 hb0 hw0
 refine(HC.out _ HB0.out).mono ?_
 rintro e w1 ⟨⟨s2,p2,n2,e2,rfl,hz2⟩,hb1⟩
 have HZ2:=Kh hz2
 have HB1:=bt HB0 hb1
 replace HX0:=Kh (bk HX0 hb1)
 clear hz2 hb1 HC
 go_wp2_with fail
 refine(HO.out _).mono ?_
 rintro e w2 ⟨⟨t2,q2,m2,d2,rfl,hz3⟩,hb2⟩
 have HQ:=Kh (show Qs w2 s2 p2 n2 e2 t2 q2 m2 d2 (z:Rat)from⟨HZ2.out.keep hb2,hz3⟩)
 have HR:=Kh (bk HX0 hb2)
 have HB:=bt HB1 hb2
 clear hz3 hb2 HX0 HB1 HZ2 HO HB0
 have r0:=HR.out.at_ 0 rfl
 have r1:=HR.out.at_ 1 rfl
 have r2:=HR.out.at_ 2 rfl
 have r3:=HR.out.at_ 3 rfl
 have f0:=HR.out.free_ 0
 have f1:=HR.out.free_ 1
 have f2:=HR.out.free_ 2
 have f3:=HR.out.free_ 3
 obtain⟨w9,hw9⟩:∃ w9,(((w2.setCell ⟨w.heap.size+1,0,none⟩ (.bool s2)).setCell ⟨w.heap.size+1,1,none⟩ (.slice p2 n2 e2)).setCell ⟨w.heap.size+1,2,none⟩ (.bool t2)).setCell ⟨w.heap.size+1,3,none⟩ (.slice q2 m2 d2)=w9:=⟨_,rfl⟩
 obtain⟨E0,E1,E2,E3,hq9⟩:=rat_put HR.out HQ.out hw9
 have hb9:Below w.heap.size w w9:=by rw[← hw9];exact below_putR HB.out (by omega) _ _ _ _
 have HW9:=Kh hw9
 have HE9:=Kh (And.intro E0 (And.intro E1 (And.intro E2 E3)))
 have HQ9:=Kh hq9
 have HB9:=Kh hb9
 clear E0 E1 E2 E3 hq9 hb9 hw9 HQ HB HR
 go_wp2
 try rw[HW9.out]
 obtain⟨E0,E1,E2,E3⟩:=HE9.out
 try simp only[Exit.inBlock,Exit.then]
 refine bodyPost_ret (by simp[results,Tryz.results100,go_sem,E0,E1,E2,E3];try rfl) rfl ?_
 exact⟨⟨s2,p2,n2,e2,t2,q2,m2,d2,rfl,HQ9.out⟩,HB9.out⟩
theorem c_qQuoQ (s:Bool) (p:Option Addr) (n c:Nat) (t:Bool) (q:Option Addr) (m d:Nat) (x:Rat) (s':Bool) (p':Option Addr) (n' c':Nat) (t':Bool) (q':Option Addr) (m' d':Nat) (y:Rat) (w:World) (h:Qs w s p n c t q m d x) (h':Qs w s' p' n' c' t' q' m' d' y) (hx:hq x≤1000000000) (hy:hq y≤1000000000) (h0:y≠0):
  Calls Tryz.prog 102 #[.agg #[.bool s,.slice p n c,.bool t,.slice q m d],.agg #[.bool s',.slice p' n' c',.bool t',.slice q' m' d']] w fun e w'=>(∃ s4 p4 n4 c4 t4 q4 m4 d4,e=.returned (.tuple #[.agg #[.bool s4,.slice p4 n4 c4,.bool t4,.slice q4 m4 d4],.int .i64 0])∧Qs w' s4 p4 n4 c4 t4 q4 m4 d4 (x / y))∧Below w.heap.size w w':=by
 have HV:=Kh (quo_over x y)
 have HS:=Kh (And.intro h.sizes h'.sizes)
 have HS1:=Kh (show nd (x.num*y.den).natAbs≤4398046511100 by rw[Int.natAbs_mul,Int.natAbs_natCast];have:=nd_mul x.num.natAbs y.den;have:=hq_num x;have:=hq_den y;omega)
 have HS2:=Kh (show nd (x.den*y.num).natAbs≤4398046511100 by rw[Int.natAbs_mul,Int.natAbs_natCast];have:=nd_mul x.den y.num.natAbs;have:=hq_den x;have:=hq_num y;omega)
 have HSG:=Kh (fun w1 (hb:Below w.heap.size w w1)=>c_qSignQ s' p' n' c' t' q' m' d' y w1 (h'.keep hb) hy)
 have HC1:=Kh (fun w1 (hb:Below w.heap.size w w1)=>c_Mul s p n c x.num t' q' m' d' y.den w1 (h.1.keep hb).raw (h'.2.keep hb).raw (by have:=HS.out;omega) (by have:=HS.out;omega))
 have HC2:=Kh (fun w1 (hb:Below w.heap.size w w1)=>c_Mul t q m d x.den s' p' n' c' y.num w1 (h.2.keep hb).raw (h'.1.keep hb).raw (by have:=HS.out;omega) (by have:=HS.out;omega))
 clear h h'
 go_enter Tryz.func102,Tryz.ntmps102
 go_wp2_with fail
 obtain⟨w0,hw0,X0,X1,X2,hb0⟩:=bx3 w #[.bool s,.slice p n c,.bool t,.slice q m d] 35 #[.bool s',.slice p' n' c',.bool t',.slice q' m' d'] 35 #[.bool false,.slice none 0 0,.bool false,.slice none 0 0] 35
 rw[hw0]
 have hs0:w.heap.size≤w0.heap.size:=hb0.size
 clear hw0
 have HX0:=Kh X0
 have HX1:=Kh X1
 have HX2:=Kh X2
 have HB0:=Kh hb0
 clear X0 X1 X2 hb0 hs0
 have r0:=HX1.out.at_ 0 rfl
 have r1:=HX1.out.at_ 1 rfl
 have r2:=HX1.out.at_ 2 rfl
 have r3:=HX1.out.at_ 3 rfl
 go_wp2_with fail
 refine(HSG.out _ HB0.out).mono ?_
 rintro e w1 ⟨⟨sg,rfl,hsg⟩,hb1⟩
 have hsg0:(sg==0)=false:=by
  have:sg≠0:=fun e=>h0 (hsg.1 e)
  simpa using this
 have hb0:=HB0.out.trans (hb1.mono HB0.out.size)
 have hs0:=hb0.size
 have X0:=bk HX0 hb1
 have X1:=bk HX1 hb1
 have X2:=bk HX2 hb1
 clear HSG HX0 HX1 HX2 HB0 hb1 hsg r0 r1 r2 r3
 obtain⟨w0,rfl⟩:∃ w0:World,w0=w1:=⟨_,rfl⟩
 go_upto_region 3 with(fail)
 have M1:True:=trivial
 have T2:=Sts.of X2 (by intro v hv;simp at hv;rcases hv with rfl|rfl|rfl|rfl <;> first|exact NotInt.bool _|exact NotInt.slice _ _ _)
 have hS0:=S8_4_next (Below.refl _ w0).drew ⟨X0.c0,X0.c1,X0.c2,X0.c3,X1.c0,X1.c1,X1.c2,X1.c3,X2.so 0,X2.free_ 0,T2,X2.so 1,X2.free_ 1,T2,X2.so 2,X2.free_ 2,T2,X2.so 3,X2.free_ 3,T2,hb0,hs0⟩
 clear X0 X1 X2
 go_region_held3 (fun w1=>w1.cell? ⟨w.heap.size,0,none⟩=some (.bool s)∧w1.cell? ⟨w.heap.size,1,none⟩=some (.slice p n c)∧w1.cell? ⟨w.heap.size,2,none⟩=some (.bool t)∧w1.cell? ⟨w.heap.size,3,none⟩=some (.slice q m d)∧w1.cell? ⟨w.heap.size+1,0,none⟩=some (.bool s')∧w1.cell? ⟨w.heap.size+1,1,none⟩=some (.slice p' n' c')∧w1.cell? ⟨w.heap.size+1,2,none⟩=some (.bool t')∧w1.cell? ⟨w.heap.size+1,3,none⟩=some (.slice q' m' d')∧w1.cell? ⟨w.heap.size+1+1,0,none⟩=some (cellOf w1 ⟨w.heap.size+1+1,0,none⟩)∧w1.frozen? ⟨w.heap.size+1+1,0,none⟩=false∧Sts w1 (w.heap.size+1+1)∧w1.cell? ⟨w.heap.size+1+1,1,none⟩=some (cellOf w1 ⟨w.heap.size+1+1,1,none⟩)∧w1.frozen? ⟨w.heap.size+1+1,1,none⟩=false∧Sts w1 (w.heap.size+1+1)∧w1.cell? ⟨w.heap.size+1+1,2,none⟩=some (cellOf w1 ⟨w.heap.size+1+1,2,none⟩)∧w1.frozen? ⟨w.heap.size+1+1,2,none⟩=false∧Sts w1 (w.heap.size+1+1)∧w1.cell? ⟨w.heap.size+1+1,3,none⟩=some (cellOf w1 ⟨w.heap.size+1+1,3,none⟩)∧w1.frozen? ⟨w.heap.size+1+1,3,none⟩=false∧Sts w1 (w.heap.size+1+1)∧Below w.heap.size w w1∧w.heap.size≤w1.heap.size)
  (first|with_reducible exact hS0 |(refine S8_4_next (by with_reducible assumption) ?_;assumption) |(refine S8_4_put ?_ ?_ ?_ ?_ ?_ ?_ ?_ ?_ ?_ ?_ ?_ ?_ ?_ ?_ ?_ ?_ ?_ ?_ ?_ ?_ ?_ ?_ ?_ ?_ ?_ ?_ ?_ ?_ ?_ ?_ ?_ ?_ ?_ ?_ ?_ ?_ ?_ ?_ ?_ ?_ ?_ <;> first|assumption|exact NotInt.bool _|exact NotInt.slice _ _ _ |(dsimp only;omega) |(simp;done)))
  (first
   |(go_at_call 78;clear M1;refine(HC1.out _ (S8_4_below (by with_reducible assumption))).mono ?_;rintro e w2 ⟨⟨s2,p2,n2,e2,rfl,hz2⟩,hb2⟩;have HZ2:=Kh hz2;clear hz2)
   |(go_at_call 78;refine(HC2.out _ (S8_4_below (by with_reducible assumption))).mono ?_;rintro e w3 ⟨⟨s3,p3,n3,e3,rfl,hz3⟩,hb3⟩;have HOV:=Kh (c_over s2 p2 n2 e2 (x.num*y.den) s3 p3 n3 e3 (x.den*y.num) w3 (HZ2.out.keep hb3).raw hz3.raw (by rw[← HZ2.out.2.1];exact HS1.out) (by rw[← hz3.2.1];exact HS2.out));clear hz3 hb2 HZ2)
   |(go_at_call 77;refine HOV.out.mono ?_;rintro e w4 ⟨⟨s4,p4,n4,e4,t4,q4,m4,d4,rfl,hq4⟩,hb4⟩;clear hb3;obtain⟨⟨hR0,hT⟩,⟨hR1,_⟩,⟨hR2,_⟩,⟨hR3,_⟩⟩:=S8_4_end hb4 (by with_reducible assumption);have hq5:=Kh (hq4.put4 hT (.bool s4) (.slice p4 n4 e4) (.bool t4) (.slice q4 m4 d4) (NotInt.bool _) (NotInt.slice _ _ _) (NotInt.bool _));clear hq4 hT))
 go_wp2
 try simp only[Exit.inBlock,Exit.then]
 refine bodyPost_ret (by simp[results,Tryz.results102,go_sem,hR0,hR1,hR2,hR3];try rfl) rfl ?_
 exact⟨⟨s4,p4,n4,e4,t4,q4,m4,d4,rfl,HV.out▸hq5.out⟩,S8_4_below (by assumption)⟩
theorem c_sSign (s:Bool) (p:Option Addr) (n c:Nat) (x:Int) (t:Bool) (q:Option Addr) (m d:Nat) (y:Int) (w:World) (h1:Zr w s p n c x) (h2:Zr w t q m d y) (hn:n≤4398046511000) (hm:m≤4398046511000):
  Calls Tryz.prog 66 #[.agg #[.bool s,.slice p n c,.bool t,.slice q m d]] w fun e w'=>RetSg e (Rat.divInt x y)∧Below w.heap.size w w':=by
 have hC1:=fun w1 (hb:Below w.heap.size w w1)=>c_rSign s p n c x w1 (h1.keep hb) (by omega)
 have hC2:=fun w1 (hb:Below w.heap.size w w1)=>c_rSign t q m d y w1 (h2.keep hb) (by omega)
 have hz:=sign_mul_zero x y
 obtain⟨b1,b2,_⟩:=sign_bound x
 obtain⟨b3,b4,_⟩:=sign_bound y
 have hmb:=mul_bound b1 b2 b3 b4
 generalize Int.sign x=gx at *
 generalize Int.sign y=gy at *
 obtain⟨g,hg⟩:∃ g,gx*gy=g:=⟨_,rfl⟩
 rw[hg]at hz hmb
 obtain⟨g1,g2⟩:=hmb
 have HC1:=Kh hC1
 have HC2:=Kh hC2
 have HZ:=Kh hz
 have hgw:IntKind.i64.wrap (gx*gy)=g:=by rw[hg];exact IntWalk.i64_in _ (by omega)
 clear hC1 hC2 hz h1 h2 b1 b2 b3 b4
 go_enter Tryz.func66,Tryz.ntmps66
 go_upto_region 1 with(fail)
 obtain⟨w0,hw0,X0,hb0⟩:=bx1 w #[.bool s,.slice p n c,.bool t,.slice q m d] 35
 rw[hw0]
 have hs0:w.heap.size≤w0.heap.size:=hb0.size
 clear hw0
 have M1:True:=trivial
 have hS0:=S4_0_next (Below.refl _ w0).drew ⟨X0.c0,X0.c1,X0.c2,X0.c3,hb0,hs0⟩
 clear X0
 go_region_held3 (fun w1=>w1.cell? ⟨w.heap.size,0,none⟩=some (.bool s)∧w1.cell? ⟨w.heap.size,1,none⟩=some (.slice p n c)∧w1.cell? ⟨w.heap.size,2,none⟩=some (.bool t)∧w1.cell? ⟨w.heap.size,3,none⟩=some (.slice q m d)∧Below w.heap.size w w1∧w.heap.size≤w1.heap.size)
  (first|with_reducible exact hS0 |(refine S4_0_next (by with_reducible assumption) ?_;assumption) |(refine S4_0_put ?_  <;> first|assumption|exact NotInt.bool _|exact NotInt.slice _ _ _ |(dsimp only;omega) |(simp;done)))
  (first
   |(go_at_call 115;clear M1;refine(HC1.out _ (S4_0_below (by with_reducible assumption))).mono ?_;rintro e w2 ⟨rfl,hb2⟩)
   |(go_at_call 115;refine(HC2.out _ (S4_0_below (by with_reducible assumption))).mono ?_;rintro e w3 ⟨rfl,hb3⟩;clear hb2))
 go_wp2
 go_ret
 exact⟨⟨g,by show Ending.returned (Value.int .i64 (IntKind.i64.wrap g))=_;rw[IntWalk.i64_in _ (by omega)],HZ.out⟩,S4_0_below (by assumption)⟩
theorem c_sSignQ (s:Bool) (p:Option Addr) (n c:Nat) (t:Bool) (q:Option Addr) (m d:Nat) (x:Rat) (w:World) (h:Qs w s p n c t q m d x) (hx:hq x≤1000000000):
  Calls Tryz.prog 66 #[.agg #[.bool s,.slice p n c,.bool t,.slice q m d]] w fun e w'=>RetSg e x∧Below w.heap.size w w':=by
 have h1:=c_sSign s p n c x.num t q m d x.den w h.1.raw h.2.raw (by have:=h.sizes;omega) (by have:=h.sizes;omega)
 rw[rat_self]at h1
 exact h1
theorem c_sNegQ (s:Bool) (p:Option Addr) (n c:Nat) (t:Bool) (q:Option Addr) (m d:Nat) (x:Rat) (w:World) (h:Qs w s p n c t q m d x) (hx:hq x≤1000000000):
  Calls Tryz.prog 61 #[.agg #[.bool s,.slice p n c,.bool t,.slice q m d]] w fun e w'=>RetQ w' e (-x)∧Below w.heap.size w w':=by
 have HV:=Kh (neg_over x)
 have HS:=Kh h.sizes
 have HS1:=Kh (show nd (-x.num).natAbs≤4398046511000 by rw[Int.natAbs_neg];have:=hq_num x;omega)
 have HD:=Kh (fun w1 (hb:Below w.heap.size w w1)=>h.2.keep hb)
 have HC1:=Kh (fun w1 (hb:Below w.heap.size w w1)=>c_rNeg s p n c x.num w1 (h.1.keep hb).raw (by have:=HS.out;omega))
 clear h
 go_enter Tryz.func61,Tryz.ntmps61
 go_upto_region 1 with(fail)
 obtain⟨w0,hw0,X0,X1,hb0⟩:=bx2 w #[.bool s,.slice p n c,.bool t,.slice q m d] 35 #[.bool false,.slice none 0 0,.bool false,.slice none 0 0] 35
 rw[hw0]
 have hs0:w.heap.size≤w0.heap.size:=hb0.size
 clear hw0
 have M1:True:=trivial
 have T1:=Sts.of X1 (by intro v hv;simp at hv;rcases hv with rfl|rfl|rfl|rfl <;> first|exact NotInt.bool _|exact NotInt.slice _ _ _)
 have hS0:=S4_4_next (Below.refl _ w0).drew ⟨X0.c0,X0.c1,X0.c2,X0.c3,X1.so 0,X1.free_ 0,T1,X1.so 1,X1.free_ 1,T1,X1.so 2,X1.free_ 2,T1,X1.so 3,X1.free_ 3,T1,hb0,hs0⟩
 clear X0 X1
 go_region_held3 (fun w1=>w1.cell? ⟨w.heap.size,0,none⟩=some (.bool s)∧w1.cell? ⟨w.heap.size,1,none⟩=some (.slice p n c)∧w1.cell? ⟨w.heap.size,2,none⟩=some (.bool t)∧w1.cell? ⟨w.heap.size,3,none⟩=some (.slice q m d)∧w1.cell? ⟨w.heap.size+1,0,none⟩=some (cellOf w1 ⟨w.heap.size+1,0,none⟩)∧w1.frozen? ⟨w.heap.size+1,0,none⟩=false∧Sts w1 (w.heap.size+1)∧w1.cell? ⟨w.heap.size+1,1,none⟩=some (cellOf w1 ⟨w.heap.size+1,1,none⟩)∧w1.frozen? ⟨w.heap.size+1,1,none⟩=false∧Sts w1 (w.heap.size+1)∧w1.cell? ⟨w.heap.size+1,2,none⟩=some (cellOf w1 ⟨w.heap.size+1,2,none⟩)∧w1.frozen? ⟨w.heap.size+1,2,none⟩=false∧Sts w1 (w.heap.size+1)∧w1.cell? ⟨w.heap.size+1,3,none⟩=some (cellOf w1 ⟨w.heap.size+1,3,none⟩)∧w1.frozen? ⟨w.heap.size+1,3,none⟩=false∧Sts w1 (w.heap.size+1)∧Below w.heap.size w w1∧w.heap.size≤w1.heap.size)
  (first|with_reducible exact hS0 |(refine S4_4_next (by with_reducible assumption) ?_;assumption) |(refine S4_4_put ?_ ?_ ?_ ?_ ?_ ?_ ?_ ?_ ?_ ?_ ?_ ?_ ?_ ?_ ?_ ?_ ?_ ?_ ?_ ?_ ?_ ?_ ?_ ?_ ?_ <;> first|assumption|exact NotInt.bool _|exact NotInt.slice _ _ _ |(dsimp only;omega) |(simp;done)))
  (first
   |(go_at_call 113;refine(HC1.out _ (S4_4_below (by with_reducible assumption))).mono ?_;rintro e w2 ⟨⟨s2,p2,n2,e2,rfl,hz2⟩,hb2⟩;have HZ2:=Kh hz2;have HB2:=Kh (show Below w.heap.size w w2 from Below.trans (S4_4_below (by with_reducible assumption)) (Below.mono hb2 (Below.size (S4_4_below (by with_reducible assumption)))));have HOV:=Kh (c_sOver s2 p2 n2 e2 (-x.num) t q m d x.den w2 HZ2.out.raw (HD.out _ HB2.out).raw (by rw[← HZ2.out.2.1];exact HS1.out) (by have:=HS.out;omega));clear hz2)
   |(go_at_call 97;refine HOV.out.mono ?_;rintro e w4 ⟨⟨s4,p4,n4,e4,t4,q4,m4,d4,rfl,hq4⟩,hb4⟩;clear hb2;obtain⟨⟨hR0,hT⟩,⟨hR1,_⟩,⟨hR2,_⟩,⟨hR3,_⟩⟩:=S4_4_end hb4 (by with_reducible assumption);have hq5:=Kh (hq4.put4 hT (.bool s4) (.slice p4 n4 e4) (.bool t4) (.slice q4 m4 d4) (NotInt.bool _) (NotInt.slice _ _ _) (NotInt.bool _));clear hq4 hT))
 go_wp2
 try simp only[Exit.inBlock,Exit.then]
 refine bodyPost_ret (by simp[results,Tryz.results61,go_sem,hR0,hR1,hR2,hR3];try rfl) rfl ?_
 exact⟨⟨s4,p4,n4,e4,t4,q4,m4,d4,rfl,HV.out▸hq5.out⟩,S4_4_below (by assumption)⟩
theorem rat_div (x y:Rat) (hy:y≠0):Rat.divInt (x.num*y.den) (x.den*y.num)=x / y:=by
 have h1:(x.den:Int)≠0:=by have:=x.den_pos;omega
 have h2:(y.den:Int)≠0:=by have:=y.den_pos;omega
 have h3:y.num≠0:=fun e=>hy (Rat.num_eq_zero.1 e)
 have e1:((x.den:Int):Rat)≠0:=fun e=>h1 (by exact_mod_cast e)
 have e2:((y.den:Int):Rat)≠0:=fun e=>h2 (by exact_mod_cast e)
 have e3:(y.num:Rat)≠0:=fun e=>h3 (by exact_mod_cast e)
 have hx:x=(x.num:Rat) / ((x.den:Int):Rat):=by rw[← Rat.divInt_eq_div];exact(rat_self x).symm
 have hy2:y=(y.num:Rat) / ((y.den:Int):Rat):=by rw[← Rat.divInt_eq_div];exact(rat_self y).symm
 rw[Rat.divInt_eq_div,Rat.intCast_mul,Rat.intCast_mul]
 generalize (x.num:Rat)=a at *
 generalize ((x.den:Int):Rat)=b at *
 generalize (y.num:Rat)=c at *
 generalize ((y.den:Int):Rat)=d at *
 rw[hx,hy2]
 grind
theorem c_sRatio (s:Bool) (p:Option Addr) (n c:Nat) (t:Bool) (q:Option Addr) (m d:Nat) (x:Rat) (s':Bool) (p':Option Addr) (n' c':Nat) (t':Bool) (q':Option Addr) (m' d':Nat) (y:Rat) (w:World) (h:Qs w s p n c t q m d x) (h':Qs w s' p' n' c' t' q' m' d' y) (hy0:y≠0) (hn:hq x≤1099511627770) (hm:hq y≤1099511627770):
  Calls Tryz.prog 174 #[.agg #[.bool s,.slice p n c,.bool t,.slice q m d],.agg #[.bool s',.slice p' n' c',.bool t',.slice q' m' d']] w fun e w'=>RetQ w' e (x / y)∧Below w.heap.size w w':=by
 have HN1:=Kh (fun w1 (hb:Below w.heap.size w w1)=>by
  have h1:=c_sNormal s p n c x.num t q m d x.den w1 (h.1.raw.keep hb) (h.2.raw.keep hb) (by have:=h.sizes;omega) (by have:=h.sizes;omega)
  rw[rat_self]at h1
  exact h1)
 have HN2:=Kh (fun w1 (hb:Below w.heap.size w w1)=>by
  have h1:=c_sNormal s' p' n' c' y.num t' q' m' d' y.den w1 (h'.1.raw.keep hb) (h'.2.raw.keep hb) (by have:=h'.sizes;omega) (by have:=h'.sizes;omega)
  rw[rat_self]at h1
  exact h1)
 have HX:=Kh hn
 have HY0:=Kh hy0
 have HY:=Kh hm
 clear h h' hn hm hy0
 go_enter Tryz.func174,Tryz.ntmps174
 go_upto_region 1 with(fail)
 obtain⟨wc,hwc,X0,X1,X2,hb0⟩:=bx3 w #[.bool s,.slice p n c,.bool t,.slice q m d] 35 #[.bool s',.slice p' n' c',.bool t',.slice q' m' d'] 35 #[.bool false,.slice none 0 0,.bool false,.slice none 0 0] 35
 rw[hwc]
 have hs0:w.heap.size≤wc.heap.size:=hb0.size
 clear hwc
 have HBC:=Kh hb0
 have HR0:=Kh X2
 have hlt:w.heap.size+1+1<wc.heap.size:=X2.lt
 go_cut [5,6]from 7 to 10 (fun v5 v6 wd=>∃ g5 g6,v5=.pointer (some ⟨g5,0,none⟩)∧v6=.pointer (some ⟨g6,0,none⟩)∧g5≠g6∧wc.heap.size≤g5∧wc.heap.size≤g6∧TwoQ wd g5 g6 x y∧Below wc.heap.size wc wd)
 case first=>
  have hS1:wc.cell? ⟨w.heap.size,0,none⟩=some (.bool s)∧wc.cell? ⟨w.heap.size,1,none⟩=some (.slice p n c)∧wc.cell? ⟨w.heap.size,2,none⟩=some (.bool t)∧wc.cell? ⟨w.heap.size,3,none⟩=some (.slice q m d)∧wc.cell? ⟨w.heap.size+1,0,none⟩=some (.bool s')∧wc.cell? ⟨w.heap.size+1,1,none⟩=some (.slice p' n' c')∧wc.cell? ⟨w.heap.size+1,2,none⟩=some (.bool t')∧wc.cell? ⟨w.heap.size+1,3,none⟩=some (.slice q' m' d')∧Below wc.heap.size wc wc∧wc.heap.size≤wc.heap.size:=⟨X0.at_ 0 rfl,X0.at_ 1 rfl,X0.at_ 2 rfl,X0.at_ 3 rfl,X1.at_ 0 rfl,X1.at_ 1 rfl,X1.at_ 2 rfl,X1.at_ 3 rfl,Below.refl _ _,Nat.le_refl _⟩
  have hS0:wc.drew.cell? ⟨w.heap.size,0,none⟩=some (.bool s)∧wc.drew.cell? ⟨w.heap.size,1,none⟩=some (.slice p n c)∧wc.drew.cell? ⟨w.heap.size,2,none⟩=some (.bool t)∧wc.drew.cell? ⟨w.heap.size,3,none⟩=some (.slice q m d)∧wc.drew.cell? ⟨w.heap.size+1,0,none⟩=some (.bool s')∧wc.drew.cell? ⟨w.heap.size+1,1,none⟩=some (.slice p' n' c')∧wc.drew.cell? ⟨w.heap.size+1,2,none⟩=some (.bool t')∧wc.drew.cell? ⟨w.heap.size+1,3,none⟩=some (.slice q' m' d')∧Below wc.heap.size wc wc.drew∧wc.heap.size≤wc.drew.heap.size:=S8_0_next (Below.refl _ wc).drew hS1
  clear X0 X1
  have M1:True:=trivial
  go_region_held3 (fun w1=>w1.cell? ⟨w.heap.size,0,none⟩=some (.bool s)∧w1.cell? ⟨w.heap.size,1,none⟩=some (.slice p n c)∧w1.cell? ⟨w.heap.size,2,none⟩=some (.bool t)∧w1.cell? ⟨w.heap.size,3,none⟩=some (.slice q m d)∧w1.cell? ⟨w.heap.size+1,0,none⟩=some (.bool s')∧w1.cell? ⟨w.heap.size+1,1,none⟩=some (.slice p' n' c')∧w1.cell? ⟨w.heap.size+1,2,none⟩=some (.bool t')∧w1.cell? ⟨w.heap.size+1,3,none⟩=some (.slice q' m' d')∧Below wc.heap.size wc w1∧wc.heap.size≤w1.heap.size)
   (first|with_reducible exact hS0 |(refine S8_0_next (by with_reducible assumption) ?_;assumption)|exact S8_0_next (by go_grown) hS1)
   (first
    |(go_at_call 116;clear M1;refine(HN1.out _ (HBC.out.trans ((S8_0_below (by with_reducible assumption)).mono HBC.out.size))).mono ?_;rintro e w2 ⟨⟨s2,p2,n2,e2,t2,q2,m2,f2,rfl,hz2⟩,hb2⟩;have HA2:=Kh hz2;have hz2s:wc.heap.size≤w2.heap.size:=Nat.le_trans (S8_0_size (by with_reducible assumption)) (Below.size hb2);have hw2:Below wc.heap.size wc w2:=Below.trans (S8_0_below (by with_reducible assumption)) (Below.mono hb2 (S8_0_size (by with_reducible assumption)));(first|have fa:=qfr2 (B:=wc.heap.size) (W:=wc.drew) (g:=wc.heap.size) rfl (Nat.le_refl _) hb2|have fa:=qfr1 (B:=wc.heap.size) (W:=wc.drew) (g:=wc.heap.size) rfl (Nat.le_refl _) hb2|skip);(try have fb:=qfr1 (B:=wc.heap.size) (W:=wc.drew.alloc (.cells #[.bool false,.slice none 0 0,.bool false,.slice none 0 0] 35)) (g:=wc.heap.size+1) (by simp) (by omega) hb2);clear hz2)
    |(go_at_call 116;refine(HN2.out _ (HBC.out.trans ((S8_0_below (by with_reducible assumption)).mono HBC.out.size))).mono ?_;rintro e w3 ⟨⟨s3,p3,n3,e3,t3,q3,m3,f3,rfl,hz3⟩,hb3⟩;have HA3:=Kh (show Qs w3 s2 p2 n2 e2 t2 q2 m2 f2 x∧Qs w3 s3 p3 n3 e3 t3 q3 m3 f3 y from⟨by first|exact HA2.out.keep hb3|exact(HA2.out.keep ((Below.refl _ _).alloc (Nat.le_refl _) _)).keep hb3|exact((HA2.out.keep ((Below.refl _ _).alloc (Nat.le_refl _) _)).keep ((Below.refl _ _).alloc (Nat.le_refl _) _)).keep hb3,hz3⟩);have hz3s:wc.heap.size≤w3.heap.size:=Nat.le_trans (S8_0_size (by with_reducible assumption)) (Below.size hb3);have hw3:Below wc.heap.size wc w3:=Below.trans (S8_0_below (by with_reducible assumption)) (Below.mono hb3 (S8_0_size (by with_reducible assumption)));(first|have ga:=qfrn0 fa hb3|have ga:=qfrn1 fa hb3|skip);(try have gb:=qfrn0 fb hb3);(first|have gc:=qfr2 (B:=wc.heap.size) (W:=w2) (g:=w2.heap.size) rfl hz2s hb3|have gc:=qfr1 (B:=wc.heap.size) (W:=w2) (g:=w2.heap.size) rfl hz2s hb3|skip);(try have gd:=qfr1 (B:=wc.heap.size) (W:=w2.alloc (.cells #[.bool false,.slice none 0 0,.bool false,.slice none 0 0] 35)) (g:=w2.heap.size+1) (by simp) (by omega) hb3);(try have ha1:=fun o=>qfr_al ga o);(try have hb1:=fun o=>qfr_al gb o);(try have hc1:=fun o=>qfr_al gc o);(try have hd1:=fun o=>qfr_al gd o);have hnn:=qfr_new hz3s;(try have qga:=And.intro (Nat.ne_of_lt ga.2.2.2.2.2.2.2.2.2.lt) (Nat.ne_of_gt ga.2.2.2.2.2.2.2.2.2.lt));(try have qgb:=And.intro (Nat.ne_of_lt gb.2.2.2.2.2.2.2.2.2.lt) (Nat.ne_of_gt gb.2.2.2.2.2.2.2.2.2.lt));(try have qgc:=And.intro (Nat.ne_of_lt gc.2.2.2.2.2.2.2.2.2.lt) (Nat.ne_of_gt gc.2.2.2.2.2.2.2.2.2.lt));(try have qgd:=And.intro (Nat.ne_of_lt gd.2.2.2.2.2.2.2.2.2.lt) (Nat.ne_of_gt gd.2.2.2.2.2.2.2.2.2.lt));(try have qfa:=And.intro (Nat.ne_of_lt fa.2.2.2.2.2.2.2.2.2.lt) (Nat.ne_of_gt fa.2.2.2.2.2.2.2.2.2.lt));(try have qfb:=And.intro (Nat.ne_of_lt fb.2.2.2.2.2.2.2.2.2.lt) (Nat.ne_of_gt fb.2.2.2.2.2.2.2.2.2.lt));(try have hb2s:=Below.size hb2);(try have hb3s:=Below.size hb3);clear hz3 HA2))
  all_goals go_wp2
  all_goals go_meet
  all_goals refine⟨_,_,rfl,rfl,?_,?_,?_,?_,?_⟩
  all_goals first
   |(with_reducible exact twoq_new12 HA3.out)
   |(with_reducible exact twoq_new21 HA3.out)
   |(with_reducible exact twoq_half ga.2.2.2.2.2.2.2.2.2 HA3.out)
   |(with_reducible exact twoq_half gb.2.2.2.2.2.2.2.2.2 HA3.out)
   |(with_reducible exact twoq_half gc.2.2.2.2.2.2.2.2.2 HA3.out)
   |(with_reducible exact twoq_half gd.2.2.2.2.2.2.2.2.2 HA3.out)
   |(with_reducible exact twoq_top ga.2.2.2.2.2.2.2.2.2 HA3.out)
   |(with_reducible exact twoq_top gb.2.2.2.2.2.2.2.2.2 HA3.out)
   |(with_reducible exact twoq_top gc.2.2.2.2.2.2.2.2.2 HA3.out)
   |(with_reducible exact twoq_top gd.2.2.2.2.2.2.2.2.2 HA3.out)
   |(with_reducible exact twoq_put (by omega) ga.2.2.2.2.2.2.2.2.2 gb.2.2.2.2.2.2.2.2.2 HA3.out.1 HA3.out.2)
   |(with_reducible exact twoq_put (by omega) ga.2.2.2.2.2.2.2.2.2 gc.2.2.2.2.2.2.2.2.2 HA3.out.1 HA3.out.2)
   |(with_reducible exact twoq_put (by omega) ga.2.2.2.2.2.2.2.2.2 gd.2.2.2.2.2.2.2.2.2 HA3.out.1 HA3.out.2)
   |(with_reducible exact twoq_put (by omega) gb.2.2.2.2.2.2.2.2.2 ga.2.2.2.2.2.2.2.2.2 HA3.out.1 HA3.out.2)
   |(with_reducible exact twoq_put (by omega) gb.2.2.2.2.2.2.2.2.2 gc.2.2.2.2.2.2.2.2.2 HA3.out.1 HA3.out.2)
   |(with_reducible exact twoq_put (by omega) gb.2.2.2.2.2.2.2.2.2 gd.2.2.2.2.2.2.2.2.2 HA3.out.1 HA3.out.2)
   |(with_reducible exact twoq_put (by omega) gc.2.2.2.2.2.2.2.2.2 ga.2.2.2.2.2.2.2.2.2 HA3.out.1 HA3.out.2)
   |(with_reducible exact twoq_put (by omega) gc.2.2.2.2.2.2.2.2.2 gb.2.2.2.2.2.2.2.2.2 HA3.out.1 HA3.out.2)
   |(with_reducible exact twoq_put (by omega) gc.2.2.2.2.2.2.2.2.2 gd.2.2.2.2.2.2.2.2.2 HA3.out.1 HA3.out.2)
   |(with_reducible exact twoq_put (by omega) gd.2.2.2.2.2.2.2.2.2 ga.2.2.2.2.2.2.2.2.2 HA3.out.1 HA3.out.2)
   |(with_reducible exact twoq_put (by omega) gd.2.2.2.2.2.2.2.2.2 gb.2.2.2.2.2.2.2.2.2 HA3.out.1 HA3.out.2)
   |(with_reducible exact twoq_put (by omega) gd.2.2.2.2.2.2.2.2.2 gc.2.2.2.2.2.2.2.2.2 HA3.out.1 HA3.out.2)
   | omega
   | go_grown
 case rest=>
  obtain⟨g5,g6,rfl,rfl,hne,hg5,hg6,⟨s1,p1,n1,c1,t1,q1,m1,d1,s2,p2,n2,c2,t2,q2,m2,d2,XA,XB,zx,zy⟩,hbd⟩:=hcut
  have hlt5:w.heap.size+1+1<g5:=by omega
  have hlt6:w.heap.size+1+1<g6:=by omega
  have XR:=bk HR0 hbd
  have hbw:=HBC.out.trans (hbd.mono HBC.out.size)
  have TR:=Sts.qbox XR
  obtain⟨we,rfl⟩:∃ we:World,we=wc:=⟨_,rfl⟩
  have sx:=zx.sizes
  have sy:=zy.sizes
  have hx:=HX.out
  have hy:=HY.out
  have HQX:=Kh zx
  have HQY:=Kh zy
  have HM1:=Kh (fun w1 (hb:Below we.heap.size we w1)=>c_rMul s1 p1 n1 c1 x.num t2 q2 m2 d2 y.den w1 (HQX.out.1.raw.keep hb) (HQY.out.2.raw.keep hb) (by omega) (by omega))
  have HM2:=Kh (fun w1 (hb:Below we.heap.size we w1)=>c_rMul t1 q1 m1 d1 x.den s2 p2 n2 c2 y.num w1 (HQX.out.2.raw.keep hb) (HQY.out.1.raw.keep hb) (by omega) (by omega))
  have HS1:=Kh (show nd (x.num*y.den).natAbs≤2199023255540 by rw[Int.natAbs_mul];have:=nd_mul x.num.natAbs (y.den:Int).natAbs;have:=hq_num x;have:=hq_den y;rw[Int.natAbs_natCast]at *;omega)
  have HS2:=Kh (show nd ((x.den:Int)*y.num).natAbs≤2199023255540 by rw[Int.natAbs_mul];have:=nd_mul (x.den:Int).natAbs y.num.natAbs;have:=hq_num y;have:=hq_den x;rw[Int.natAbs_natCast]at *;omega)
  have HV:=Kh (rat_div x y HY0.out)
  clear hx hy sx sy zx zy HN1 HN2 HX HY X0 X1 X2 hb0 hs0 hbd hg5 hg6 hlt HBC HR0 HQX HQY hne
  go_upto_region 2 with(fail)
  have M2:True:=trivial
  have hS0:=S8_4_next (Below.refl _ we).drew ⟨XA.c0,XA.c1,XA.c2,XA.c3,XB.c0,XB.c1,XB.c2,XB.c3,XR.so 0,XR.free_ 0,TR,XR.so 1,XR.free_ 1,TR,XR.so 2,XR.free_ 2,TR,XR.so 3,XR.free_ 3,TR,hbw,Below.size (show Below w.heap.size w we from hbw)⟩
  clear XA XB XR TR
  have M1:True:=trivial
  go_region_held3 (fun w1=>w1.cell? ⟨g5,0,none⟩=some (.bool s1)∧w1.cell? ⟨g5,1,none⟩=some (.slice p1 n1 c1)∧w1.cell? ⟨g5,2,none⟩=some (.bool t1)∧w1.cell? ⟨g5,3,none⟩=some (.slice q1 m1 d1)∧w1.cell? ⟨g6,0,none⟩=some (.bool s2)∧w1.cell? ⟨g6,1,none⟩=some (.slice p2 n2 c2)∧w1.cell? ⟨g6,2,none⟩=some (.bool t2)∧w1.cell? ⟨g6,3,none⟩=some (.slice q2 m2 d2)∧w1.cell? ⟨w.heap.size+1+1,0,none⟩=some (cellOf w1 ⟨w.heap.size+1+1,0,none⟩)∧w1.frozen? ⟨w.heap.size+1+1,0,none⟩=false∧Sts w1 (w.heap.size+1+1)∧w1.cell? ⟨w.heap.size+1+1,1,none⟩=some (cellOf w1 ⟨w.heap.size+1+1,1,none⟩)∧w1.frozen? ⟨w.heap.size+1+1,1,none⟩=false∧Sts w1 (w.heap.size+1+1)∧w1.cell? ⟨w.heap.size+1+1,2,none⟩=some (cellOf w1 ⟨w.heap.size+1+1,2,none⟩)∧w1.frozen? ⟨w.heap.size+1+1,2,none⟩=false∧Sts w1 (w.heap.size+1+1)∧w1.cell? ⟨w.heap.size+1+1,3,none⟩=some (cellOf w1 ⟨w.heap.size+1+1,3,none⟩)∧w1.frozen? ⟨w.heap.size+1+1,3,none⟩=false∧Sts w1 (w.heap.size+1+1)∧Below w.heap.size w w1∧w.heap.size≤w1.heap.size)
   (first|with_reducible exact hS0 |(refine S8_4_next (by with_reducible assumption) ?_;assumption) |(refine S8_4_put ?_ ?_ ?_ ?_ ?_ ?_ ?_ ?_ ?_ ?_ ?_ ?_ ?_ ?_ ?_ ?_ ?_ ?_ ?_ ?_ ?_ ?_ ?_ ?_ ?_ ?_ ?_ ?_ ?_ ?_ ?_ ?_ ?_ ?_ ?_ ?_ ?_ ?_ ?_ ?_ ?_ <;> first|assumption|exact NotInt.bool _|exact NotInt.slice _ _ _ |(dsimp only;omega) |(simp;done)))
   (first
    |(go_at_call 98;clear M1;refine(HM1.out _ (by first|exact(Below.refl _ _).drew|exact Below.refl _ _)).mono ?_;rintro e w2 ⟨⟨s3,p3,n3,e3,rfl,hz3⟩,hb3⟩;have HA3:=Kh hz3;have HB3:=Kh (show Below we.heap.size we w2 from(by first|exact(Below.refl _ we).drew.trans hb3|exact hb3));clear hz3)
    |(go_at_call 98;clear M2;refine(HM2.out _ HB3.out).mono ?_;rintro e w3 ⟨⟨s4,p4,n4,e4,rfl,hz4⟩,hb4⟩;have HB4:=bt HB3 hb4;have HA4:=Kh (show Zs w3 s3 p3 n3 e3 (x.num*y.den)∧Zs w3 s4 p4 n4 e4 (x.den*y.num)from⟨HA3.out.keep hb4,hz4⟩);have HOV:=Kh (c_sOver s3 p3 n3 e3 (x.num*y.den) s4 p4 n4 e4 (x.den*y.num) w3 HA4.out.1.raw HA4.out.2.raw (by rw[← HA4.out.1.2.1];have:=HS1.out;omega) (by rw[← HA4.out.2.2.1];have:=HS2.out;omega));clear hz4 hb3 HA3 HB3)
    |(go_at_call 97;refine HOV.out.mono ?_;rintro e w6 ⟨⟨s7,p7,n7,e7,t7,q7,m7,d7,rfl,hq7⟩,hb7⟩;clear hb4;obtain⟨⟨hR0,hT⟩,⟨hR1,_⟩,⟨hR2,_⟩,⟨hR3,_⟩⟩:=S8_4_end hb7 (by with_reducible assumption);have hq8:=Kh (hq7.put4 hT (.bool s7) (.slice p7 n7 e7) (.bool t7) (.slice q7 m7 d7) (NotInt.bool _) (NotInt.slice _ _ _) (NotInt.bool _));clear hq7 hT))
  go_wp2
  try simp only[Exit.inBlock,Exit.then]
  refine bodyPost_ret (by simp[results,Tryz.results174,go_sem,hR0,hR1,hR2,hR3];try rfl) rfl ?_
  exact⟨⟨s7,p7,n7,e7,t7,q7,m7,d7,rfl,HV.out▸hq8.out⟩,S8_4_below (by assumption)⟩
theorem c_sMulQ2 (s:Bool) (p:Option Addr) (n c:Nat) (t:Bool) (q:Option Addr) (m d:Nat) (x:Rat) (s':Bool) (p':Option Addr) (n' c':Nat) (t':Bool) (q':Option Addr) (m' d':Nat) (y:Rat) (w:World) (h:Qs w s p n c t q m d x) (h':Qs w s' p' n' c' t' q' m' d' y) (hx:hq x≤1000000000) (hy:hq y≤1000000000):
  Calls Tryz.prog 52 #[.agg #[.bool s,.slice p n c,.bool t,.slice q m d],.agg #[.bool s',.slice p' n' c',.bool t',.slice q' m' d']] w fun e w'=>RetQ w' e (x*y)∧Below w.heap.size w w':=by
 have h1:=c_sMul s p n c x.num t q m d x.den s' p' n' c' y.num t' q' m' d' y.den w h.1.raw h.2.raw h'.1.raw h'.2.raw (by have:=h.sizes;omega) (by have:=h.sizes;omega) (by have:=h'.sizes;omega) (by have:=h'.sizes;omega)
 rw[rat_self,rat_self]at h1
 exact h1
end Go.Proofs.YthikonjlgljikaaGreatDoor
