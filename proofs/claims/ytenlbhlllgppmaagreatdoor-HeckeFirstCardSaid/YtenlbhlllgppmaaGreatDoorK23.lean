/- Contracts of rational: Neg, Sub, Whole, Quo, Sign, for normalized fractions. -/
import Derived.Test.YtenlbhlllgppmaaGreatDoorK19
import Derived.Test.YtenlbhlllgppmaaGreatDoorK22
set_option maxRecDepth 100000
set_option maxHeartbeats 8000000
namespace Go.Proofs.YtenlbhlllgppmaaGreatDoor
open Go.RowKit
theorem neg_over (x:Rat):Rat.divInt (-x.num) x.den=-x:=by
 rw[← Rat.neg_divInt,rat_self]
theorem quo_over (x y:Rat):Rat.divInt (x.num*y.den) (x.den*y.num)=x / y:=by
 rw[← Rat.divInt_mul_divInt,rat_self,Rat.div_def,Rat.inv_def]
theorem c_qSignQ (s:Bool) (p:Option Addr) (n c:Nat) (t:Bool) (q:Option Addr) (m d:Nat) (x:Rat) (w:World) (h:Qs w s p n c t q m d x) (hx:hq x≤1000000000):
  Calls Tryz.prog 97 #[.agg #[.bool s,.slice p n c,.bool t,.slice q m d]] w fun e w'=>RetSg e x∧Below w.heap.size w w':=by
 have h1:=c_qSign s p n c x.num t q m d x.den w h.1.raw h.2.raw (by have:=h.sizes;omega) (by have:=h.sizes;omega)
 rw[rat_self]at h1
 exact h1
theorem c_qNegQ (s:Bool) (p:Option Addr) (n c:Nat) (t:Bool) (q:Option Addr) (m d:Nat) (x:Rat) (w:World) (h:Qs w s p n c t q m d x) (hx:hq x≤1000000000):
  Calls Tryz.prog 51 #[.agg #[.bool s,.slice p n c,.bool t,.slice q m d]] w fun e w'=>RetQ w' e (-x)∧Below w.heap.size w w':=by
 have HV:=Kh (neg_over x)
 have HS:=Kh h.sizes
 have HS1:=Kh (show nd (-x.num).natAbs≤4398046511100 by rw[Int.natAbs_neg];have:=hq_num x;omega)
 have HD:=Kh (fun w1 (hb:Below w.heap.size w w1)=>h.2.keep hb)
 have HC1:=Kh (fun w1 (hb:Below w.heap.size w w1)=>c_Neg s p n c x.num w1 (h.1.keep hb).raw (by have:=HS.out;omega))
 clear h
 go_enter Tryz.func51,Tryz.ntmps51
 go_upto_region 1 with(fail)
 obtain⟨w0,hw0,X0,X1,hb0⟩:=bx2 w #[.bool s,.slice p n c,.bool t,.slice q m d] 86 #[.bool false,.slice none 0 0,.bool false,.slice none 0 0] 86
 rw[hw0]
 have hs0:w.heap.size≤w0.heap.size:=hb0.size
 clear hw0
 have M1:True:=trivial
 have T1:=Sts.of X1 (by intro v hv;simp at hv;rcases hv with rfl|rfl|rfl|rfl <;> first|exact NotInt.bool _|exact NotInt.slice _ _ _)
 have hS0:=S4_4_next (Below.refl _ w0).drew ⟨X0.c0,X0.c1,X0.c2,X0.c3,X1.so 0,X1.free_ 0,T1,X1.so 1,X1.free_ 1,T1,X1.so 2,X1.free_ 2,T1,X1.so 3,X1.free_ 3,T1,hb0,hs0⟩
 clear X0 X1
 go_region_held3 (fun w1=>w1.cell? ⟨w.heap.size,0,none⟩=some (.bool s)∧w1.cell? ⟨w.heap.size,1,none⟩=some (.slice p n c)∧w1.cell? ⟨w.heap.size,2,none⟩=some (.bool t)∧w1.cell? ⟨w.heap.size,3,none⟩=some (.slice q m d)∧w1.cell? ⟨w.heap.size+1,0,none⟩=some (cellOf w1 ⟨w.heap.size+1,0,none⟩)∧w1.frozen? ⟨w.heap.size+1,0,none⟩=false∧Sts w1 (w.heap.size+1)∧w1.cell? ⟨w.heap.size+1,1,none⟩=some (cellOf w1 ⟨w.heap.size+1,1,none⟩)∧w1.frozen? ⟨w.heap.size+1,1,none⟩=false∧Sts w1 (w.heap.size+1)∧w1.cell? ⟨w.heap.size+1,2,none⟩=some (cellOf w1 ⟨w.heap.size+1,2,none⟩)∧w1.frozen? ⟨w.heap.size+1,2,none⟩=false∧Sts w1 (w.heap.size+1)∧w1.cell? ⟨w.heap.size+1,3,none⟩=some (cellOf w1 ⟨w.heap.size+1,3,none⟩)∧w1.frozen? ⟨w.heap.size+1,3,none⟩=false∧Sts w1 (w.heap.size+1)∧Below w.heap.size w w1∧w.heap.size≤w1.heap.size)
  (first|with_reducible exact hS0 |(refine S4_4_next (by with_reducible assumption) ?_;assumption) |(refine S4_4_put ?_ ?_ ?_ ?_ ?_ ?_ ?_ ?_ ?_ ?_ ?_ ?_ ?_ ?_ ?_ ?_ ?_ ?_ ?_ ?_ ?_ ?_ ?_ ?_ ?_ <;> first|assumption|exact NotInt.bool _|exact NotInt.slice _ _ _ |(dsimp only;omega) |(simp;done)))
  (first
   |(go_at_call 98;refine(HC1.out _ (S4_4_below (by with_reducible assumption))).mono ?_;rintro e w2 ⟨⟨s2,p2,n2,e2,rfl,hz2⟩,hb2⟩;have HZ2:=Kh hz2;have HB2:=Kh (show Below w.heap.size w w2 from Below.trans (S4_4_below (by with_reducible assumption)) (Below.mono hb2 (Below.size (S4_4_below (by with_reducible assumption)))));have HOV:=Kh (c_over s2 p2 n2 e2 (-x.num) t q m d x.den w2 HZ2.out.raw (HD.out _ HB2.out).raw (by rw[← HZ2.out.2.1];exact HS1.out) (by have:=HS.out;omega));clear hz2)
   |(go_at_call 85;refine HOV.out.mono ?_;rintro e w4 ⟨⟨s4,p4,n4,e4,t4,q4,m4,d4,rfl,hq4⟩,hb4⟩;clear hb2;obtain⟨⟨hR0,hT⟩,⟨hR1,_⟩,⟨hR2,_⟩,⟨hR3,_⟩⟩:=S4_4_end hb4 (by with_reducible assumption);have hq5:=Kh (hq4.put4 hT (.bool s4) (.slice p4 n4 e4) (.bool t4) (.slice q4 m4 d4) (NotInt.bool _) (NotInt.slice _ _ _) (NotInt.bool _));clear hq4 hT))
 go_wp2
 try simp only[Exit.inBlock,Exit.then]
 refine bodyPost_ret (by simp[results,Tryz.results51,go_sem,hR0,hR1,hR2,hR3];try rfl) rfl ?_
 exact⟨⟨s4,p4,n4,e4,t4,q4,m4,d4,rfl,HV.out▸hq5.out⟩,S4_4_below (by assumption)⟩
theorem c_qSubQ (s:Bool) (p:Option Addr) (n c:Nat) (t:Bool) (q:Option Addr) (m d:Nat) (x:Rat) (s':Bool) (p':Option Addr) (n' c':Nat) (t':Bool) (q':Option Addr) (m' d':Nat) (y:Rat) (w:World) (h:Qs w s p n c t q m d x) (h':Qs w s' p' n' c' t' q' m' d' y) (hx:hq x≤1000000000) (hy:hq y≤1000000000):
  Calls Tryz.prog 146 #[.agg #[.bool s,.slice p n c,.bool t,.slice q m d],.agg #[.bool s',.slice p' n' c',.bool t',.slice q' m' d']] w fun e w'=>RetQ w' e (x - y)∧Below w.heap.size w w':=by
 have HV:=Kh (Rat.sub_eq_add_neg x y).symm
 have HY:=Kh (show hq (-y)≤1000000000 by rw[hq,Rat.neg_num,Rat.neg_den,Int.natAbs_neg];exact hy)
 have HD:=Kh (fun w1 (hb:Below w.heap.size w w1)=>h.keep hb)
 have HC1:=Kh (fun w1 (hb:Below w.heap.size w w1)=>c_qNegQ s' p' n' c' t' q' m' d' y w1 (h'.keep hb) hy)
 clear h h'
 go_enter Tryz.func146,Tryz.ntmps146
 go_upto_region 1 with(fail)
 obtain⟨w0,hw0,X0,X1,X2,hb0⟩:=bx3 w #[.bool s,.slice p n c,.bool t,.slice q m d] 86 #[.bool s',.slice p' n' c',.bool t',.slice q' m' d'] 86 #[.bool false,.slice none 0 0,.bool false,.slice none 0 0] 86
 rw[hw0]
 have hs0:w.heap.size≤w0.heap.size:=hb0.size
 clear hw0
 have M1:True:=trivial
 have T2:=Sts.of X2 (by intro v hv;simp at hv;rcases hv with rfl|rfl|rfl|rfl <;> first|exact NotInt.bool _|exact NotInt.slice _ _ _)
 have hS0:=S8_4_next (Below.refl _ w0).drew ⟨X0.c0,X0.c1,X0.c2,X0.c3,X1.c0,X1.c1,X1.c2,X1.c3,X2.so 0,X2.free_ 0,T2,X2.so 1,X2.free_ 1,T2,X2.so 2,X2.free_ 2,T2,X2.so 3,X2.free_ 3,T2,hb0,hs0⟩
 clear X0 X1 X2
 go_region_held3 (fun w1=>w1.cell? ⟨w.heap.size,0,none⟩=some (.bool s)∧w1.cell? ⟨w.heap.size,1,none⟩=some (.slice p n c)∧w1.cell? ⟨w.heap.size,2,none⟩=some (.bool t)∧w1.cell? ⟨w.heap.size,3,none⟩=some (.slice q m d)∧w1.cell? ⟨w.heap.size+1,0,none⟩=some (.bool s')∧w1.cell? ⟨w.heap.size+1,1,none⟩=some (.slice p' n' c')∧w1.cell? ⟨w.heap.size+1,2,none⟩=some (.bool t')∧w1.cell? ⟨w.heap.size+1,3,none⟩=some (.slice q' m' d')∧w1.cell? ⟨w.heap.size+1+1,0,none⟩=some (cellOf w1 ⟨w.heap.size+1+1,0,none⟩)∧w1.frozen? ⟨w.heap.size+1+1,0,none⟩=false∧Sts w1 (w.heap.size+1+1)∧w1.cell? ⟨w.heap.size+1+1,1,none⟩=some (cellOf w1 ⟨w.heap.size+1+1,1,none⟩)∧w1.frozen? ⟨w.heap.size+1+1,1,none⟩=false∧Sts w1 (w.heap.size+1+1)∧w1.cell? ⟨w.heap.size+1+1,2,none⟩=some (cellOf w1 ⟨w.heap.size+1+1,2,none⟩)∧w1.frozen? ⟨w.heap.size+1+1,2,none⟩=false∧Sts w1 (w.heap.size+1+1)∧w1.cell? ⟨w.heap.size+1+1,3,none⟩=some (cellOf w1 ⟨w.heap.size+1+1,3,none⟩)∧w1.frozen? ⟨w.heap.size+1+1,3,none⟩=false∧Sts w1 (w.heap.size+1+1)∧Below w.heap.size w w1∧w.heap.size≤w1.heap.size)
  (first|with_reducible exact hS0 |(refine S8_4_next (by with_reducible assumption) ?_;assumption) |(refine S8_4_put ?_ ?_ ?_ ?_ ?_ ?_ ?_ ?_ ?_ ?_ ?_ ?_ ?_ ?_ ?_ ?_ ?_ ?_ ?_ ?_ ?_ ?_ ?_ ?_ ?_ ?_ ?_ ?_ ?_ ?_ ?_ ?_ ?_ ?_ ?_ ?_ ?_ ?_ ?_ ?_ ?_ <;> first|assumption|exact NotInt.bool _|exact NotInt.slice _ _ _ |(dsimp only;omega) |(simp;done)))
  (first
   |(go_at_call 51;refine(HC1.out _ (S8_4_below (by with_reducible assumption))).mono ?_;rintro e w2 ⟨⟨s2,p2,n2,e2,t2,q2,m2,d2,rfl,hz2⟩,hb2⟩;have HZ2:=Kh hz2;have HB2:=Kh (show Below w.heap.size w w2 from Below.trans (S8_4_below (by with_reducible assumption)) (Below.mono hb2 (Below.size (S8_4_below (by with_reducible assumption)))));have HOV:=Kh (c_qAddQ s p n c t q m d x s2 p2 n2 e2 t2 q2 m2 d2 (-y) w2 (HD.out _ HB2.out) HZ2.out hx HY.out);clear hz2)
   |(go_at_call 39;refine HOV.out.mono ?_;rintro e w4 ⟨⟨s4,p4,n4,e4,t4,q4,m4,d4,rfl,hq4⟩,hb4⟩;clear hb2;obtain⟨⟨hR0,hT⟩,⟨hR1,_⟩,⟨hR2,_⟩,⟨hR3,_⟩⟩:=S8_4_end hb4 (by with_reducible assumption);have hq5:=Kh (hq4.put4 hT (.bool s4) (.slice p4 n4 e4) (.bool t4) (.slice q4 m4 d4) (NotInt.bool _) (NotInt.slice _ _ _) (NotInt.bool _));clear hq4 hT))
 go_wp2
 try simp only[Exit.inBlock,Exit.then]
 refine bodyPost_ret (by simp[results,Tryz.results146,go_sem,hR0,hR1,hR2,hR3];try rfl) rfl ?_
 exact⟨⟨s4,p4,n4,e4,t4,q4,m4,d4,rfl,HV.out▸hq5.out⟩,S8_4_below (by assumption)⟩
theorem c_qWhole (s:Bool) (p:Option Addr) (n c:Nat) (z:Int) (w:World) (h:Zs w s p n c z) (hn:n≤1000000000):
  Calls Tryz.prog 94 #[.agg #[.bool s,.slice p n c]] w fun e w'=>RetQ w' e (z:Rat)∧Below w.heap.size w w':=by
 have HC:=Kh (fun w1 (hb:Below w.heap.size w w1)=>c_Normal s p n c z w1 (h.keep hb).raw (by omega))
 have HO:=Kh (fun w1=>c_Of 1 w1 (by omega) (by omega))
 clear h
 go_enter Tryz.func94,Tryz.ntmps94
 go_wp2_with fail
 obtain⟨w0,hw0,X1,X0,hb0⟩:=bx2 w #[.bool s,.slice p n c] 84 #[.bool false,.slice none 0 0,.bool false,.slice none 0 0] 86
 rw[hw0]
 have HX0:=Kh X0
 have HB0:=Kh hb0
 clear X0 X1 hb0 hw0
 refine(HC.out _ HB0.out).mono ?_
 rintro e w1 ⟨⟨s2,p2,n2,e2,rfl,hz2⟩,hb1⟩
 have HZ2:=Kh hz2
 have HB1:=bt HB0 hb1
 replace HX0:=Kh (bk HX0 hb1)
 clear hz2 hb1 HC
 go_wp2_with fail
 refine(HO.out _).mono ?_
 rintro e w2 ⟨⟨t2,q2,m2,d2,rfl,hz3⟩,hb2⟩
 have HQ:=Kh (show Qs w2 s2 p2 n2 e2 t2 q2 m2 d2 (z:Rat)from⟨HZ2.out.keep hb2,hz3⟩)
 have HR:=Kh (bk HX0 hb2)
 have HB:=bt HB1 hb2
 clear hz3 hb2 HX0 HB1 HZ2 HO HB0
 have r0:=HR.out.at_ 0 rfl
 have r1:=HR.out.at_ 1 rfl
 have r2:=HR.out.at_ 2 rfl
 have r3:=HR.out.at_ 3 rfl
 have f0:=HR.out.free_ 0
 have f1:=HR.out.free_ 1
 have f2:=HR.out.free_ 2
 have f3:=HR.out.free_ 3
 obtain⟨w9,hw9⟩:∃ w9,(((w2.setCell ⟨w.heap.size+1,0,none⟩ (.bool s2)).setCell ⟨w.heap.size+1,1,none⟩ (.slice p2 n2 e2)).setCell ⟨w.heap.size+1,2,none⟩ (.bool t2)).setCell ⟨w.heap.size+1,3,none⟩ (.slice q2 m2 d2)=w9:=⟨_,rfl⟩
 obtain⟨E0,E1,E2,E3,hq9⟩:=rat_put HR.out HQ.out hw9
 have hb9:Below w.heap.size w w9:=by rw[← hw9];exact below_putR HB.out (by omega) _ _ _ _
 have HW9:=Kh hw9
 have HE9:=Kh (And.intro E0 (And.intro E1 (And.intro E2 E3)))
 have HQ9:=Kh hq9
 have HB9:=Kh hb9
 clear E0 E1 E2 E3 hq9 hb9 hw9 HQ HB HR
 go_wp2
 try rw[HW9.out]
 obtain⟨E0,E1,E2,E3⟩:=HE9.out
 try simp only[Exit.inBlock,Exit.then]
 refine bodyPost_ret (by simp[results,Tryz.results94,go_sem,E0,E1,E2,E3];try rfl) rfl ?_
 exact⟨⟨s2,p2,n2,e2,t2,q2,m2,d2,rfl,HQ9.out⟩,HB9.out⟩
theorem c_qQuoQ (s:Bool) (p:Option Addr) (n c:Nat) (t:Bool) (q:Option Addr) (m d:Nat) (x:Rat) (s':Bool) (p':Option Addr) (n' c':Nat) (t':Bool) (q':Option Addr) (m' d':Nat) (y:Rat) (w:World) (h:Qs w s p n c t q m d x) (h':Qs w s' p' n' c' t' q' m' d' y) (hx:hq x≤1000000000) (hy:hq y≤1000000000) (h0:y≠0):
  Calls Tryz.prog 96 #[.agg #[.bool s,.slice p n c,.bool t,.slice q m d],.agg #[.bool s',.slice p' n' c',.bool t',.slice q' m' d']] w fun e w'=>(∃ s4 p4 n4 c4 t4 q4 m4 d4,e=.returned (.tuple #[.agg #[.bool s4,.slice p4 n4 c4,.bool t4,.slice q4 m4 d4],.int .i64 0])∧Qs w' s4 p4 n4 c4 t4 q4 m4 d4 (x / y))∧Below w.heap.size w w':=by
 have HV:=Kh (quo_over x y)
 have HS:=Kh (And.intro h.sizes h'.sizes)
 have HS1:=Kh (show nd (x.num*y.den).natAbs≤4398046511100 by rw[Int.natAbs_mul,Int.natAbs_natCast];have:=nd_mul x.num.natAbs y.den;have:=hq_num x;have:=hq_den y;omega)
 have HS2:=Kh (show nd (x.den*y.num).natAbs≤4398046511100 by rw[Int.natAbs_mul,Int.natAbs_natCast];have:=nd_mul x.den y.num.natAbs;have:=hq_den x;have:=hq_num y;omega)
 have HSG:=Kh (fun w1 (hb:Below w.heap.size w w1)=>c_qSignQ s' p' n' c' t' q' m' d' y w1 (h'.keep hb) hy)
 have HC1:=Kh (fun w1 (hb:Below w.heap.size w w1)=>c_Mul s p n c x.num t' q' m' d' y.den w1 (h.1.keep hb).raw (h'.2.keep hb).raw (by have:=HS.out;omega) (by have:=HS.out;omega))
 have HC2:=Kh (fun w1 (hb:Below w.heap.size w w1)=>c_Mul t q m d x.den s' p' n' c' y.num w1 (h.2.keep hb).raw (h'.1.keep hb).raw (by have:=HS.out;omega) (by have:=HS.out;omega))
 clear h h'
 go_enter Tryz.func96,Tryz.ntmps96
 go_wp2_with fail
 obtain⟨w0,hw0,X0,X1,X2,hb0⟩:=bx3 w #[.bool s,.slice p n c,.bool t,.slice q m d] 86 #[.bool s',.slice p' n' c',.bool t',.slice q' m' d'] 86 #[.bool false,.slice none 0 0,.bool false,.slice none 0 0] 86
 rw[hw0]
 have hs0:w.heap.size≤w0.heap.size:=hb0.size
 clear hw0
 have HX0:=Kh X0
 have HX1:=Kh X1
 have HX2:=Kh X2
 have HB0:=Kh hb0
 clear X0 X1 X2 hb0 hs0
 have r0:=HX1.out.at_ 0 rfl
 have r1:=HX1.out.at_ 1 rfl
 have r2:=HX1.out.at_ 2 rfl
 have r3:=HX1.out.at_ 3 rfl
 go_wp2_with fail
 refine(HSG.out _ HB0.out).mono ?_
 rintro e w1 ⟨⟨sg,rfl,hsg⟩,hb1⟩
 have hsg0:(sg==0)=false:=by
  have:sg≠0:=fun e=>h0 (hsg.1 e)
  simpa using this
 have hb0:=HB0.out.trans (hb1.mono HB0.out.size)
 have hs0:=hb0.size
 have X0:=bk HX0 hb1
 have X1:=bk HX1 hb1
 have X2:=bk HX2 hb1
 clear HSG HX0 HX1 HX2 HB0 hb1 hsg r0 r1 r2 r3
 obtain⟨w0,rfl⟩:∃ w0:World,w0=w1:=⟨_,rfl⟩
 go_upto_region 3 with(fail)
 have M1:True:=trivial
 have T2:=Sts.of X2 (by intro v hv;simp at hv;rcases hv with rfl|rfl|rfl|rfl <;> first|exact NotInt.bool _|exact NotInt.slice _ _ _)
 have hS0:=S8_4_next (Below.refl _ w0).drew ⟨X0.c0,X0.c1,X0.c2,X0.c3,X1.c0,X1.c1,X1.c2,X1.c3,X2.so 0,X2.free_ 0,T2,X2.so 1,X2.free_ 1,T2,X2.so 2,X2.free_ 2,T2,X2.so 3,X2.free_ 3,T2,hb0,hs0⟩
 clear X0 X1 X2
 go_region_held3 (fun w1=>w1.cell? ⟨w.heap.size,0,none⟩=some (.bool s)∧w1.cell? ⟨w.heap.size,1,none⟩=some (.slice p n c)∧w1.cell? ⟨w.heap.size,2,none⟩=some (.bool t)∧w1.cell? ⟨w.heap.size,3,none⟩=some (.slice q m d)∧w1.cell? ⟨w.heap.size+1,0,none⟩=some (.bool s')∧w1.cell? ⟨w.heap.size+1,1,none⟩=some (.slice p' n' c')∧w1.cell? ⟨w.heap.size+1,2,none⟩=some (.bool t')∧w1.cell? ⟨w.heap.size+1,3,none⟩=some (.slice q' m' d')∧w1.cell? ⟨w.heap.size+1+1,0,none⟩=some (cellOf w1 ⟨w.heap.size+1+1,0,none⟩)∧w1.frozen? ⟨w.heap.size+1+1,0,none⟩=false∧Sts w1 (w.heap.size+1+1)∧w1.cell? ⟨w.heap.size+1+1,1,none⟩=some (cellOf w1 ⟨w.heap.size+1+1,1,none⟩)∧w1.frozen? ⟨w.heap.size+1+1,1,none⟩=false∧Sts w1 (w.heap.size+1+1)∧w1.cell? ⟨w.heap.size+1+1,2,none⟩=some (cellOf w1 ⟨w.heap.size+1+1,2,none⟩)∧w1.frozen? ⟨w.heap.size+1+1,2,none⟩=false∧Sts w1 (w.heap.size+1+1)∧w1.cell? ⟨w.heap.size+1+1,3,none⟩=some (cellOf w1 ⟨w.heap.size+1+1,3,none⟩)∧w1.frozen? ⟨w.heap.size+1+1,3,none⟩=false∧Sts w1 (w.heap.size+1+1)∧Below w.heap.size w w1∧w.heap.size≤w1.heap.size)
  (first|with_reducible exact hS0 |(refine S8_4_next (by with_reducible assumption) ?_;assumption) |(refine S8_4_put ?_ ?_ ?_ ?_ ?_ ?_ ?_ ?_ ?_ ?_ ?_ ?_ ?_ ?_ ?_ ?_ ?_ ?_ ?_ ?_ ?_ ?_ ?_ ?_ ?_ ?_ ?_ ?_ ?_ ?_ ?_ ?_ ?_ ?_ ?_ ?_ ?_ ?_ ?_ ?_ ?_ <;> first|assumption|exact NotInt.bool _|exact NotInt.slice _ _ _ |(dsimp only;omega) |(simp;done)))
  (first
   |(go_at_call 84;clear M1;refine(HC1.out _ (S8_4_below (by with_reducible assumption))).mono ?_;rintro e w2 ⟨⟨s2,p2,n2,e2,rfl,hz2⟩,hb2⟩;have HZ2:=Kh hz2;clear hz2)
   |(go_at_call 84;refine(HC2.out _ (S8_4_below (by with_reducible assumption))).mono ?_;rintro e w3 ⟨⟨s3,p3,n3,e3,rfl,hz3⟩,hb3⟩;have HOV:=Kh (c_over s2 p2 n2 e2 (x.num*y.den) s3 p3 n3 e3 (x.den*y.num) w3 (HZ2.out.keep hb3).raw hz3.raw (by rw[← HZ2.out.2.1];exact HS1.out) (by rw[← hz3.2.1];exact HS2.out));clear hz3 hb2 HZ2)
   |(go_at_call 85;refine HOV.out.mono ?_;rintro e w4 ⟨⟨s4,p4,n4,e4,t4,q4,m4,d4,rfl,hq4⟩,hb4⟩;clear hb3;obtain⟨⟨hR0,hT⟩,⟨hR1,_⟩,⟨hR2,_⟩,⟨hR3,_⟩⟩:=S8_4_end hb4 (by with_reducible assumption);have hq5:=Kh (hq4.put4 hT (.bool s4) (.slice p4 n4 e4) (.bool t4) (.slice q4 m4 d4) (NotInt.bool _) (NotInt.slice _ _ _) (NotInt.bool _));clear hq4 hT))
 go_wp2
 try simp only[Exit.inBlock,Exit.then]
 refine bodyPost_ret (by simp[results,Tryz.results96,go_sem,hR0,hR1,hR2,hR3];try rfl) rfl ?_
 exact⟨⟨s4,p4,n4,e4,t4,q4,m4,d4,rfl,HV.out▸hq5.out⟩,S8_4_below (by assumption)⟩
end Go.Proofs.YtenlbhlllgppmaaGreatDoor
namespace Go.Proofs.YtenlbhlllgppmaaGreatDoor
namespace Eli
open Sie
def val:List (Nat×Rat)→Nat→Rat
 | [],_=>0
 | t :: r,q=>(if q=t.1 then t.2 else 0)+val r q
def Ord (n:Nat):Nat→List (Nat×Rat)→Prop
 | _,[]=>True
 | t,x :: r=>t≤x.1∧x.1<n∧x.2≠0∧Ord n (x.1+1) r
theorem Ord.mono {n:Nat}:∀ {t s:Nat} {r:List (Nat×Rat)},Ord n t r→s≤t→Ord n s r
 | _,_,[],_,_=>trivial
 | _,_,_ :: _,h,hs=>⟨Nat.le_trans hs h.1,h.2⟩
theorem val_low {n:Nat}:∀ {t:Nat} {r:List (Nat×Rat)},Ord n t r→∀ q,q<t→val r q=0
 | _,[],_,_,_=>rfl
 | t,x :: r,h,q,hq=>by
  have h1:=h.1
  rw[val,if_neg (by omega),val_low h.2.2.2 q (by omega)]
  grind
theorem val_mem {n:Nat}:∀ {t:Nat} {r:List (Nat×Rat)},Ord n t r→∀ x,x∈r→val r x.1=x.2∧t≤x.1∧x.1<n∧x.2≠0
 | _,[],_,_,hx=>by cases hx
 | t,y :: r,h,x,hx=>by
  rcases List.mem_cons.1 hx with rfl|hx
  ·refine⟨?_,h.1,h.2.1,h.2.2.1⟩
   rw[val,if_pos rfl,val_low h.2.2.2 _ (by omega)]
   grind
  ·obtain⟨h1,h2,h3,h4⟩:=val_mem h.2.2.2 x hx
   have h5:=h.1
   refine⟨?_,by omega,h3,h4⟩
   rw[val,if_neg (by omega),h1]
   grind
def mgo (c:Rat) (p:Nat) (x:Rat) (more:List (Nat×Rat)→List (Nat×Rat)):List (Nat×Rat)→List (Nat×Rat)
 | []=>(p,x) :: more []
 | y :: b=>if p<y.1 then(p,x) :: more (y :: b)else if y.1<p then(y.1,-(c*y.2)) :: mgo c p x more b else if x - c*y.2=0 then more b else(p,x - c*y.2) :: more b
def mrg (c:Rat):List (Nat×Rat)→List (Nat×Rat)→List (Nat×Rat)
 | []=>fun b=>b.map (fun y=>(y.1,-(c*y.2)))
 | x :: a=>mgo c x.1 x.2 (mrg c a)
theorem mrg_nil (c:Rat):mrg c [] []=[]:=rfl
theorem mrg_left (c:Rat) (x:Nat×Rat) (a:List (Nat×Rat)):mrg c (x :: a) []=x :: mrg c a []:=rfl
theorem mrg_right (c:Rat) (y:Nat×Rat) (b:List (Nat×Rat)):mrg c [] (y :: b)=(y.1,-(c*y.2)) :: mrg c [] b:=rfl
theorem mrg_lt (c:Rat) (x y:Nat×Rat) (a b:List (Nat×Rat)) (h:x.1<y.1):mrg c (x :: a) (y :: b)=x :: mrg c a (y :: b):=by
 show mgo c x.1 x.2 (mrg c a) (y :: b)=_
 rw[mgo,if_pos h]
theorem mrg_gt (c:Rat) (x y:Nat×Rat) (a b:List (Nat×Rat)) (h:y.1<x.1):mrg c (x :: a) (y :: b)=(y.1,-(c*y.2)) :: mrg c (x :: a) b:=by
 show mgo c x.1 x.2 (mrg c a) (y :: b)=_
 rw[mgo,if_neg (by omega),if_pos h]
 rfl
theorem mrg_eq0 (c:Rat) (x y:Nat×Rat) (a b:List (Nat×Rat)) (h:x.1=y.1) (h0:x.2 - c*y.2=0):mrg c (x :: a) (y :: b)=mrg c a b:=by
 show mgo c x.1 x.2 (mrg c a) (y :: b)=_
 rw[mgo,if_neg (by omega),if_neg (by omega),if_pos h0]
theorem mrg_eq1 (c:Rat) (x y:Nat×Rat) (a b:List (Nat×Rat)) (h:x.1=y.1) (h0:x.2 - c*y.2≠0):mrg c (x :: a) (y :: b)=(x.1,x.2 - c*y.2) :: mrg c a b:=by
 show mgo c x.1 x.2 (mrg c a) (y :: b)=_
 rw[mgo,if_neg (by omega),if_neg (by omega),if_neg h0]
theorem val_cons (x:Nat×Rat) (r:List (Nat×Rat)) (q:Nat):val (x :: r) q=(if q=x.1 then x.2 else 0)+val r q:=rfl
theorem val_nil (q:Nat):val [] q=0:=rfl
theorem val_mrg (c:Rat) (q:Nat):∀ (a b:List (Nat×Rat)),val (mrg c a b) q=val a q - c*val b q:=by
 intro a
 induction a with
 | nil=>
  intro b
  induction b with
  | nil=>rw[mrg_nil,val_nil];grind
  | cons y b ih=>
   rw[mrg_right,val_cons,ih,val_cons,val_nil]
   dsimp only
   split <;> grind
 | cons x a iha=>
  intro b
  induction b with
  | nil=>
   rw[mrg_left,val_cons,iha,val_cons,val_nil]
   clear iha
   grind
  | cons y b ihb=>
   have i1:=iha b
   have i2:=iha (y :: b)
   clear iha
   rw[val_cons]at ihb i2
   rcases Nat.lt_trichotomy x.1 y.1 with h|h|h
   ·rw[mrg_lt c x y a b h,val_cons,i2,val_cons,val_cons]
    clear ihb i1 i2
    generalize (if q=x.1 then x.2 else 0)=e1
    generalize (if q=y.1 then y.2 else 0)=e2
    grind
   ·by_cases h0:x.2 - c*y.2=0
    ·rw[mrg_eq0 c x y a b h h0,i1,val_cons,val_cons,h]
     clear ihb i1 i2
     by_cases e:q=y.1
     ·rw[if_pos e,if_pos e];grind
     ·rw[if_neg e,if_neg e];grind
    ·rw[mrg_eq1 c x y a b h h0,val_cons,i1,val_cons,val_cons,h]
     clear ihb i1 i2
     by_cases e:q=y.1
     ·rw[if_pos e,if_pos e];grind
     ·rw[if_neg e,if_neg e];grind
   ·rw[mrg_gt c x y a b h,val_cons,ihb,val_cons,val_cons]
    clear ihb i1 i2
    dsimp only
    by_cases e:q=y.1
    ·rw[if_pos e,if_neg (by omega),if_pos e];grind
    ·rw[if_neg e,if_neg e];grind
theorem ord_mrg {n:Nat} {c:Rat} (hc:c≠0):∀ (a b:List (Nat×Rat)) (t:Nat),Ord n t a→Ord n t b→Ord n t (mrg c a b):=by
 have hne:∀ y:Rat,y≠0→-(c*y)≠0:=fun y hy h=>by
  have h1:c*y=0:=by grind
  rcases Rat.mul_eq_zero.1 h1 with h2|h2
  ·exact hc h2
  ·exact hy h2
 intro a
 induction a with
 | nil=>
  intro b
  induction b with
  | nil=>intro t _ _;exact trivial
  | cons y b ih=>intro t ha hb;rw[mrg_right];exact⟨hb.1,hb.2.1,hne _ hb.2.2.1,ih _ trivial hb.2.2.2⟩
 | cons x a iha=>
  intro b
  induction b with
  | nil=>intro t ha hb;rw[mrg_left];exact⟨ha.1,ha.2.1,ha.2.2.1,iha [] _ ha.2.2.2 trivial⟩
  | cons y b ihb=>
   intro t ha hb
   rcases Nat.lt_trichotomy x.1 y.1 with h|h|h
   ·rw[mrg_lt c x y a b h];exact⟨ha.1,ha.2.1,ha.2.2.1,iha _ _ ha.2.2.2 ⟨h,hb.2⟩⟩
   ·by_cases h0:x.2 - c*y.2=0
    ·rw[mrg_eq0 c x y a b h h0]
     have h1:=ha.1
     exact(iha b (x.1+1) ha.2.2.2 (h▸hb.2.2.2)).mono (by omega)
    ·rw[mrg_eq1 c x y a b h h0]
     exact⟨ha.1,ha.2.1,h0,iha b (x.1+1) ha.2.2.2 (h▸hb.2.2.2)⟩
   ·rw[mrg_gt c x y a b h]
    exact⟨hb.1,hb.2.1,hne _ hb.2.2.1,ihb (y.1+1) ⟨h,ha.2⟩ hb.2.2.2⟩
def spr (f:Nat→Int):Nat→List (Nat×Rat)
 | 0=>[]
 | n+1=>if f n=0 then spr f n else spr f n++[(n,(f n:Rat))]
theorem val_append (a b:List (Nat×Rat)) (q:Nat):val (a++b) q=val a q+val b q:=by
 induction a with
 | nil=>rw[List.nil_append,val];grind
 | cons x a ih=>rw[List.cons_append,val,val,ih];grind
theorem ord_append {n:Nat} {c:Rat} (hn:0<n) (hc:c≠0):∀ (a:List (Nat×Rat)) (t:Nat),Ord (n - 1) t a→t≤n - 1→Ord n t (a++[(n - 1,c)])
 | [],t,_,ht=>⟨ht,by dsimp only;omega,hc,trivial⟩
 | x :: a,t,h,ht=>⟨h.1,by have:=h.2.1;omega,h.2.2.1,ord_append hn hc a _ h.2.2.2 (by have:=h.2.1;omega)⟩
theorem Ord.wide {n n':Nat} (hn:n≤n'):∀ {t:Nat} {r:List (Nat×Rat)},Ord n t r→Ord n' t r
 | _,[],_=>trivial
 | _,_ :: _,h=>⟨h.1,by have:=h.2.1;omega,h.2.2.1,Ord.wide hn h.2.2.2⟩
theorem ord_spr (f:Nat→Int) (n:Nat):Ord n 0 (spr f n):=by
 induction n with
 | zero=>exact trivial
 | succ n ih=>
  rw[spr]
  split
  ·exact ih.wide (Nat.le_succ _)
  ·rename_i h
   exact ord_append (n:=n+1) (Nat.succ_pos _) (by intro h1;exact h (by exact_mod_cast h1)) _ 0 ih (Nat.zero_le _)
theorem val_spr (f:Nat→Int) (n q:Nat):val (spr f n) q=if q<n then(f q:Rat)else 0:=by
 induction n with
 | zero=>rfl
 | succ n ih=>
  rw[spr]
  by_cases h:f n=0
  ·rw[if_pos h,ih]
   by_cases h1:q<n
   ·rw[if_pos h1,if_pos (by omega)]
   ·rw[if_neg h1]
    by_cases h2:q=n
    ·rw[if_pos (by omega),h2,h];rfl
    ·rw[if_neg (by omega)]
  ·rw[if_neg h,val_append,ih,val,val]
   by_cases h2:q=n
   ·rw[if_neg (by omega),if_pos h2,if_pos (by omega),h2];grind
   ·rw[if_neg h2]
    by_cases h1:q<n
    ·rw[if_pos h1,if_pos (by omega)];grind
    ·rw[if_neg h1,if_neg (by omega)];grind
def red (leads:Nat→List (Nat×Rat)):List (Nat×Rat)→List (Nat×Rat)
 | []=>[]
 | x :: r=>if leads x.1=[]then x :: r else mrg x.2 (x :: r) (leads x.1)
def redN (leads:Nat→List (Nat×Rat)):Nat→List (Nat×Rat)→List (Nat×Rat)
 | 0,r=>r
 | k+1,r=>red leads (redN leads k r)
def scl:List (Nat×Rat)→List (Nat×Rat)
 | []=>[]
 | x :: r=>(x :: r).map (fun y=>(y.1,1 / x.2*y.2))
def put (leads:Nat→List (Nat×Rat)) (r:List (Nat×Rat)):Nat→List (Nat×Rat):=
 match r with
 | []=>leads
 | x :: r=>fun j=>if j=x.1 then scl (x :: r)else leads j
def elim (n:Nat) (rows:Nat→Nat→Int):Nat→Nat→List (Nat×Rat)
 | 0=>fun _=>[]
 | i+1=>put (elim n rows i) (redN (elim n rows i) n (spr (rows i) n))
def ldOf (leads:Nat→List (Nat×Rat)) (j:Nat):Bool:=!(leads j).isEmpty
def rowOf (leads:Nat→List (Nat×Rat)) (j q:Nat):Rat:=if ldOf leads j then val (leads j) q else if q=j then 1 else 0
theorem ldOf_false {leads:Nat→List (Nat×Rat)} {j:Nat} (h:leads j=[]):ldOf leads j=false:=by rw[ldOf,h];rfl
theorem ldOf_true {leads:Nat→List (Nat×Rat)} {j:Nat} (h:leads j≠[]):ldOf leads j=true:=by
 rw[ldOf]
 cases e:leads j with
 | nil=>exact absurd e h
 | cons x r=>rfl
def top (n B:Nat):Nat:=nd ((n+1)*(B*cap n B)+cap n B)
structure Good (n B:Nat) (leads:Nat→List (Nat×Rat)):Prop where
 inv:∃ R,Inv B (ldOf leads) (rowOf leads) R
 ord:∀ j,Ord n j (leads j)
 head:∀ j,leads j=[]∨∃ r,leads j=(j,1) :: r
 size:∀ j x,x∈leads j→hq x.2≤top n B
def RowOk (n:Nat) (leads:Nat→List (Nat×Rat)) (v:Nat→Int) (t:Nat) (r:List (Nat×Rat)):Prop:=
 Ord n t r∧∃ u,Sp (ldOf leads) (rowOf leads) t u∧∀ q,(v q:Rat)=val r q+u q
theorem cap_mono {t n B:Nat} (h:t≤n):cap t B≤cap n B:=by
 have h1:2*(t+1)*B+1≤2*(n+1)*B+1:=by
  have:=Nat.mul_le_mul_right B (show 2*(t+1)≤2*(n+1)by omega)
  omega
 exact Nat.le_trans (Nat.pow_le_pow_left h1 t) (Nat.pow_le_pow_right (Nat.succ_pos _) h)
theorem nd_top1 {n B t k:Nat} (ht:t≤n) (hk:k≤(t+1)*(B*cap t B)):nd k≤top n B:=by
 refine nd_mono (Nat.le_trans hk (Nat.le_trans ?_ (Nat.le_add_right _ _)))
 exact Nat.mul_le_mul (by omega) (Nat.mul_le_mul_left _ (cap_mono ht))
theorem nd_top2 {n B t k:Nat} (ht:t≤n) (hk:k≤cap t B):nd k≤top n B:=
 nd_mono (Nat.le_trans hk (Nat.le_trans (cap_mono ht) (Nat.le_add_left _ _)))
theorem rat_of_mul {m N:Int} {r:Rat} (hm:m≠0) (h:(m:Rat)*r=(N:Rat)):r=Rat.divInt N m:=by
 have h1:(m:Rat)≠0:=fun e=>hm (by exact_mod_cast e)
 rw[Rat.divInt_eq_div]
 grind
theorem Ord.top {n:Nat}:∀ {t:Nat} {r:List (Nat×Rat)},Ord n t r→n≤t→r=[]
 | _,[],_,_=>rfl
 | _,x :: r,h,ht=>by have h1:=h.1;have h2:=h.2.1;omega
theorem RowOk.size {n B:Nat} {leads:Nat→List (Nat×Rat)} {v:Nat→Int} {t:Nat} {r:List (Nat×Rat)} (hr:RowOk n leads v t r) (h:Good n B leads) (hv:∀ q,(v q).natAbs≤B):
  (∀ x,x∈r→hq x.2≤top n B)∧∀ x y,x∈r→y∈r→hq (1 / x.2*y.2)≤top n B:=by
 obtain⟨R,hi⟩:=h.inv
 obtain⟨ho,u,hu,he⟩:=hr
 by_cases ht:n≤t
 ·rw[ho.top ht]
  refine⟨fun x hx=>?_,fun x y hx _=>?_⟩ <;> cases hx
 ·obtain⟨m,N,hm,hmc,hN,hE⟩:=hi.height v hv (val r) t u hu he (val_low ho)
  have hmr:(m:Rat)≠0:=fun e=>hm (by exact_mod_cast e)
  refine⟨fun x hx=>?_,fun x y hx hy=>?_⟩
  ·have h1:=hE x.1
   rw[(val_mem ho x hx).1]at h1
   rw[rat_of_mul hm h1]
   exact hq_over hm (nd_top1 (by omega) (hN _)) (nd_top2 (by omega) hmc)
  ·have h1:=hE x.1
   have h2:=hE y.1
   obtain⟨e1,_,_,h4⟩:=val_mem ho x hx
   rw[e1]at h1
   rw[(val_mem ho y hy).1]at h2
   have h3:N x.1≠0:=fun e=>by
    rw[e]at h1
    rcases Rat.mul_eq_zero.1 (h1.trans rfl)with h5|h5
    ·exact hmr h5
    ·exact h4 h5
   have h6:(N x.1:Rat)*(1 / x.2*y.2)=(N y.1:Rat):=by rw[← h1,← h2];grind
   rw[rat_of_mul h3 h6]
   exact hq_over h3 (nd_top1 (by omega) (hN _)) (nd_top1 (by omega) (hN _))
theorem RowOk.first (n:Nat) (leads:Nat→List (Nat×Rat)) (v:Nat→Int) (hv:∀ q,n≤q→v q=0):RowOk n leads v 0 (spr v n):=by
 refine⟨ord_spr v n,fun _=>0,Sp.nil _ _ _,fun q=>?_⟩
 rw[val_spr]
 by_cases h:q<n
 ·rw[if_pos h];grind
 ·rw[if_neg h,hv q (by omega)]
  have:((0:Int):Rat)=0:=rfl
  rw[this];grind
theorem RowOk.step {n B:Nat} {leads:Nat→List (Nat×Rat)} {v:Nat→Int} {t:Nat} {x:Nat×Rat} {r:List (Nat×Rat)} (hr:RowOk n leads v t (x :: r)) (h:Good n B leads) (hl:leads x.1≠[]):
  RowOk n leads v (x.1+1) (red leads (x :: r))∧red leads (x :: r)=mrg x.2 (x :: r) (leads x.1)∧∃ b,leads x.1=(x.1,1) :: b∧mrg x.2 (x :: r) (leads x.1)=mrg x.2 r b:=by
 obtain⟨ho,u,hu,he⟩:=hr
 obtain⟨b,hb⟩:=(h.head x.1).resolve_left hl
 have e1:red leads (x :: r)=mrg x.2 (x :: r) (leads x.1):=by rw[red,if_neg hl]
 have e2:mrg x.2 (x :: r) (leads x.1)=mrg x.2 r b:=by rw[hb];exact mrg_eq0 _ _ _ _ _ rfl (by grind)
 have ho2:=h.ord x.1
 rw[hb]at ho2
 have h1:=ho.1
 refine⟨⟨?_,fun q=>u q+x.2*rowOf leads x.1 q,(hu.mono (by omega)).combine _ (Sp.lead (Nat.lt_succ_self _) (ldOf_true hl)),fun q=>?_⟩,e1,b,hb,e2⟩
 ·rw[e1,e2]
  exact ord_mrg ho.2.2.1 _ _ _ ho.2.2.2 ho2.2.2.2
 ·have e3:rowOf leads x.1 q=val (leads x.1) q:=by rw[rowOf,ldOf_true hl];rfl
  show(v q:Rat)=val (red leads (x :: r)) q+(u q+x.2*rowOf leads x.1 q)
  rw[e1,val_mrg,he,e3]
  grind
theorem red_still {leads:Nat→List (Nat×Rat)} {x:Nat×Rat} {r:List (Nat×Rat)} (hl:leads x.1=[]):red leads (x :: r)=x :: r:=by rw[red,if_pos hl]
theorem RowOk.steps {n B:Nat} {leads:Nat→List (Nat×Rat)} {v:Nat→Int} {r:List (Nat×Rat)} (hr:RowOk n leads v 0 r) (h:Good n B leads) (k:Nat):
  ∃ t,RowOk n leads v t (redN leads k r)∧(k≤t∨red leads (redN leads k r)=redN leads k r):=by
 induction k with
 | zero=>exact⟨0,hr,.inl (Nat.le_refl _)⟩
 | succ k ih=>
  obtain⟨t,h1,h2⟩:=ih
  rw[redN]
  rcases h2 with h2|h2
  ·cases e:redN leads k r with
   | nil=>exact⟨t,by rw[e]at h1;exact h1,.inr rfl⟩
   | cons x r'=>
    rw[e]at h1
    by_cases hl:leads x.1=[]
    ·rw[red_still hl]
     exact⟨t,h1,.inr (red_still hl)⟩
    ·have h3:=h1.1.1
     exact⟨x.1+1,(h1.step h hl).1,.inl (by omega)⟩
  ·rw[h2]
   exact⟨t,h1,.inr h2⟩
theorem redN_still {leads:Nat→List (Nat×Rat)} {r:List (Nat×Rat)} {k:Nat} (h:red leads (redN leads k r)=redN leads k r) (m:Nat) (hm:k≤m):redN leads m r=redN leads k r:=by
 induction m with
 | zero=>obtain rfl:k=0:=by omega
         rfl
 | succ m ih=>
  by_cases e:k=m+1
  ·rw[e]
  ·rw[redN,ih (by omega),h]
theorem RowOk.end_still {n B:Nat} {leads:Nat→List (Nat×Rat)} {v:Nat→Int} {r:List (Nat×Rat)} (hr:RowOk n leads v 0 r) (h:Good n B leads):red leads (redN leads n r)=redN leads n r:=by
 obtain⟨t,h1,h2⟩:=hr.steps h n
 rcases h2 with h2|h2
 ·rw[h1.1.top h2];rfl
 ·exact h2
theorem Sp.turn {ld ld':Nat→Bool} {L L':Nat→Nat→Rat} {t:Nat} {u:Nat→Rat} (hu:Sp ld L t u) (h:∀ j,j<t→ld j=true→ld' j=true∧L' j=L j):Sp ld' L' t u:=by
 obtain⟨z,hz,ez⟩:=hu
 refine⟨z,fun j hj hn=>?_,fun q=>?_⟩
 ·cases e:ld j with
  | false=>exact hz j hj e
  | true=>rw[(h j hj e).1]at hn;cases hn
 ·rw[ez]
  refine sumQ_congr fun j hj=>?_
  cases e:ld j with
  | false=>rw[hz j hj e];grind
  | true=>rw[(h j hj e).2]
theorem val_scl (x:Nat×Rat) (r:List (Nat×Rat)) (q:Nat):val (scl (x :: r)) q=1 / x.2*val (x :: r) q:=by
 rw[scl]
 generalize x :: r=l
 induction l with
 | nil=>rw[List.map_nil,val];grind
 | cons y l ih=>
  rw[List.map_cons,val,val,ih]
  by_cases h:q=y.1
  ·simp only[if_pos h];grind
  ·simp only[if_neg h];grind
theorem ord_scl {n:Nat} {c:Rat} (hc:c≠0):∀ {t:Nat} {l:List (Nat×Rat)},Ord n t l→Ord n t (l.map (fun y=>(y.1,1 / c*y.2)))
 | _,[],_=>trivial
 | _,y :: l,h=>⟨h.1,h.2.1,fun e=>by
   rcases Rat.mul_eq_zero.1 e with h1|h1
   ·exact hc (by grind)
   ·exact h.2.2.1 h1,ord_scl hc h.2.2.2⟩
theorem Good.put {n B:Nat} {leads:Nat→List (Nat×Rat)} {v:Nat→Int} {t:Nat} {r:List (Nat×Rat)} (h:Good n B leads) (hr:RowOk n leads v t r) (hv:∀ q,(v q).natAbs≤B) (hs:red leads r=r):Good n B (Eli.put leads r):=by
 cases r with
 | nil=>exact h
 | cons x r=>
  have hno:leads x.1=[]:=by
   refine Classical.byContradiction fun hl=>?_
   obtain⟨⟨ho,_⟩,_⟩:=hr.step h hl
   rw[hs]at ho
   have:=ho.1
   omega
  obtain⟨_,hsz⟩:=hr.size h hv
  obtain⟨ho,u,hu,he⟩:=hr
  obtain⟨R,hi⟩:=h.inv
  have hx:=ho.2.2.1
  obtain⟨L',hL'⟩:∃ L',Eli.put leads (x :: r)=L':=⟨_,rfl⟩
  have eP:∀ j,L' j=if j=x.1 then scl (x :: r)else leads j:=fun j=>by rw[← hL'];rfl
  have e1:L' x.1=scl (x :: r):=by rw[eP,if_pos rfl]
  have e2:∀ j,j≠x.1→L' j=leads j:=fun j hj=>by rw[eP,if_neg hj]
  have e3:scl (x :: r)≠[]:=by rw[scl];intro e;cases e
  have hld:ldOf L' x.1=true:=ldOf_true (by rw[e1];exact e3)
  have hld2:∀ j,j≠x.1→ldOf L' j=ldOf leads j:=fun j hj=>by rw[ldOf,e2 j hj];rfl
  have hro:∀ j,j≠x.1→rowOf L' j=rowOf leads j:=fun j hj=>by funext q;rw[rowOf,rowOf,hld2 j hj,e2 j hj]
  have hrx:∀ q,rowOf L' x.1 q=1 / x.2*val (x :: r) q:=fun q=>by rw[rowOf,hld,if_pos rfl,e1,val_scl]
  have hkeep:∀ t u,Sp (ldOf leads) (rowOf leads) t u→Sp (ldOf L') (rowOf L') t u:=fun t u hu=>hu.turn fun j _ hl=>by
   have hne:j≠x.1:=fun e=>by rw[e,ldOf_false hno]at hl;cases hl
   exact⟨by rw[hld2 j hne];exact hl,hro j hne⟩
  have hox:Ord n x.1 (x :: r):=⟨Nat.le_refl _,ho.2⟩
  rw[hL']
  refine⟨⟨fun j=>if j=x.1 then v else R j,?_⟩,fun j=>?_,fun j=>?_,fun j y hy=>?_⟩
  ·constructor
   ·intro j q hq
    by_cases e:j=x.1
    ·subst e;rw[hrx,val_low hox q hq];grind
    ·rw[hro j e];exact hi.low j q hq
   ·intro j
    by_cases e:j=x.1
    ·subst e;rw[hrx,(val_mem hox x (List.mem_cons_self ..)).1];grind
    ·rw[hro j e];exact hi.one j
   ·intro j hj q
    have e:j≠x.1:=fun e=>by rw[e,hld]at hj;cases hj
    rw[hro j e];exact hi.free j (by rw[← hld2 j e];exact hj) q
   ·intro j hj q
    have e:j≠x.1:=fun e=>by rw[e,hld]at hj;cases hj
    simp only[if_neg e]
    exact hi.rfree j (by rw[← hld2 j e];exact hj) q
   ·intro p hp
    by_cases e:p=x.1
    ·subst e
     refine⟨x.2,hx,u,(hkeep _ _ (hu.mono ho.1)),fun q=>?_⟩
     rw[if_pos rfl,he,hrx]
     grind
    ·obtain⟨s,h0,u2,hu2,he2⟩:=hi.got p (by rw[← hld2 p e];exact hp)
     refine⟨s,h0,u2,hkeep _ _ hu2,fun q=>?_⟩
     rw[if_neg e,hro p e]
     exact he2 q
   ·intro p q
    show((if p=x.1 then v else R p) q).natAbs≤B
    split
    ·exact hv q
    ·exact hi.bound p q
  ·by_cases e:j=x.1
   ·subst e;rw[e1,scl];exact ord_scl hx hox
   ·rw[e2 j e];exact h.ord j
  ·by_cases e:j=x.1
   ·subst e
    refine .inr ⟨r.map (fun y=>(y.1,1 / x.2*y.2)),?_⟩
    rw[e1,scl,List.map_cons]
    have:1 / x.2*x.2=1:=by grind
    rw[this]
   ·rw[e2 j e];exact h.head j
  ·by_cases e:j=x.1
   ·subst e
    rw[e1,scl]at hy
    obtain⟨z,hz,rfl⟩:=List.mem_map.1 hy
    exact hsz x z (List.mem_cons_self ..) hz
   ·rw[e2 j e]at hy;exact h.size j y hy
theorem Good.nil {n B:Nat} (hB:1≤B):Good n B (fun _=>[]):=
 ⟨⟨fun j q=>if q=j then 1 else 0,by
  have hl:∀ j,ldOf (fun _=>[]) j=false:=fun j=>rfl
  have hr:∀ j q,rowOf (fun _=>[]) j q=if q=j then 1 else 0:=fun j q=>rfl
  constructor
  ·intro j q hq;rw[hr,if_neg (by omega)]
  ·intro j;rw[hr,if_pos rfl]
  ·intro j _ q;rw[hr]
  ·intro j _ q;rfl
  ·intro p hp;rw[hl]at hp;cases hp
  ·intro p q;split
   ·exact hB
   ·exact Nat.zero_le _⟩,fun _=>trivial,fun _=>.inl rfl,fun _ _ hx=>by cases hx⟩
theorem Good.elim {n B:Nat} {rows:Nat→Nat→Int} (hB:1≤B) (hb:∀ i q,(rows i q).natAbs≤B) (h0:∀ i q,n≤q→rows i q=0) (k:Nat):Good n B (elim n rows k):=by
 induction k with
 | zero=>exact Good.nil hB
 | succ k ih=>
  have hr:=RowOk.first n (Eli.elim n rows k) (rows k) (h0 k)
  obtain⟨t,h1,_⟩:=hr.steps ih n
  exact ih.put h1 (hb k) (hr.end_still ih)
end Eli
end Go.Proofs.YtenlbhlllgppmaaGreatDoor
