/- Contracts of halfplaneref02: Sign, Neg, Ratio, for normalized fractions. -/
import Derived.Test.YthikonjlgljikaaGreatDoorR23
import Derived.Test.YthikonjlgljikaaGreatDoorR25
import Derived.Test.YthikonjlgljikaaGreatDoorR12
set_option linter.unusedSimpArgs false
set_option maxRecDepth 100000
set_option maxHeartbeats 8000000
namespace Go.Proofs.YthikonjlgljikaaGreatDoor
open Go.RowKit
theorem c_sSign (s:Bool) (p:Option Addr) (n c:Nat) (x:Int) (t:Bool) (q:Option Addr) (m d:Nat) (y:Int) (w:World) (h1:Zr w s p n c x) (h2:Zr w t q m d y) (hn:n≤4398046511000) (hm:m≤4398046511000):
  Calls Tryz.prog 66 #[.agg #[.bool s,.slice p n c,.bool t,.slice q m d]] w fun e w'=>RetSg e (Rat.divInt x y)∧Below w.heap.size w w':=by
 have hC1:=fun w1 (hb:Below w.heap.size w w1)=>c_rSign s p n c x w1 (h1.keep hb) (by omega)
 have hC2:=fun w1 (hb:Below w.heap.size w w1)=>c_rSign t q m d y w1 (h2.keep hb) (by omega)
 have hz:=sign_mul_zero x y
 obtain⟨b1,b2,_⟩:=sign_bound x
 obtain⟨b3,b4,_⟩:=sign_bound y
 have hmb:=mul_bound b1 b2 b3 b4
 generalize Int.sign x=gx at *
 generalize Int.sign y=gy at *
 obtain⟨g,hg⟩:∃ g,gx*gy=g:=⟨_,rfl⟩
 rw[hg]at hz hmb
 obtain⟨g1,g2⟩:=hmb
 have HC1:=Kh hC1
 have HC2:=Kh hC2
 have HZ:=Kh hz
 have hgw:IntKind.i64.wrap (gx*gy)=g:=by rw[hg];exact IntWalk.i64_in _ (by omega)
 clear hC1 hC2 hz h1 h2 b1 b2 b3 b4
 go_enter Tryz.func66,Tryz.ntmps66
 go_upto_region 1 with(fail)
 obtain⟨w0,hw0,X0,hb0⟩:=bx1 w #[.bool s,.slice p n c,.bool t,.slice q m d] 35
 rw[hw0]
 have hs0:w.heap.size≤w0.heap.size:=hb0.size
 clear hw0
 have M1:True:=trivial
 have hS0:=S4_0_next (Below.refl _ w0).drew ⟨X0.c0,X0.c1,X0.c2,X0.c3,hb0,hs0⟩
 clear X0
 go_region_held3 (fun w1=>w1.cell? ⟨w.heap.size,0,none⟩=some (.bool s)∧w1.cell? ⟨w.heap.size,1,none⟩=some (.slice p n c)∧w1.cell? ⟨w.heap.size,2,none⟩=some (.bool t)∧w1.cell? ⟨w.heap.size,3,none⟩=some (.slice q m d)∧Below w.heap.size w w1∧w.heap.size≤w1.heap.size)
  (first|with_reducible exact hS0 |(refine S4_0_next (by with_reducible assumption) ?_;assumption) |(refine S4_0_put ?_  <;> first|assumption|exact NotInt.bool _|exact NotInt.slice _ _ _ |(dsimp only;omega) |(simp;done)))
  (first
   |(go_at_call 115;clear M1;refine(HC1.out _ (S4_0_below (by with_reducible assumption))).mono ?_;rintro e w2 ⟨rfl,hb2⟩)
   |(go_at_call 115;refine(HC2.out _ (S4_0_below (by with_reducible assumption))).mono ?_;rintro e w3 ⟨rfl,hb3⟩;clear hb2))
 go_wp2
 go_ret
 exact⟨⟨g,by show Ending.returned (Value.int .i64 (IntKind.i64.wrap g))=_;rw[IntWalk.i64_in _ (by omega)],HZ.out⟩,S4_0_below (by assumption)⟩
theorem c_sSignQ (s:Bool) (p:Option Addr) (n c:Nat) (t:Bool) (q:Option Addr) (m d:Nat) (x:Rat) (w:World) (h:Qs w s p n c t q m d x) (hx:hq x≤1000000000):
  Calls Tryz.prog 66 #[.agg #[.bool s,.slice p n c,.bool t,.slice q m d]] w fun e w'=>RetSg e x∧Below w.heap.size w w':=by
 have h1:=c_sSign s p n c x.num t q m d x.den w h.1.raw h.2.raw (by have:=h.sizes;omega) (by have:=h.sizes;omega)
 rw[rat_self]at h1
 exact h1
theorem c_sNegQ (s:Bool) (p:Option Addr) (n c:Nat) (t:Bool) (q:Option Addr) (m d:Nat) (x:Rat) (w:World) (h:Qs w s p n c t q m d x) (hx:hq x≤1000000000):
  Calls Tryz.prog 61 #[.agg #[.bool s,.slice p n c,.bool t,.slice q m d]] w fun e w'=>RetQ w' e (-x)∧Below w.heap.size w w':=by
 have HV:=Kh (neg_over x)
 have HS:=Kh h.sizes
 have HS1:=Kh (show nd (-x.num).natAbs≤4398046511000 by rw[Int.natAbs_neg];have:=hq_num x;omega)
 have HD:=Kh (fun w1 (hb:Below w.heap.size w w1)=>h.2.keep hb)
 have HC1:=Kh (fun w1 (hb:Below w.heap.size w w1)=>c_rNeg s p n c x.num w1 (h.1.keep hb).raw (by have:=HS.out;omega))
 clear h
 go_enter Tryz.func61,Tryz.ntmps61
 go_upto_region 1 with(fail)
 obtain⟨w0,hw0,X0,X1,hb0⟩:=bx2 w #[.bool s,.slice p n c,.bool t,.slice q m d] 35 #[.bool false,.slice none 0 0,.bool false,.slice none 0 0] 35
 rw[hw0]
 have hs0:w.heap.size≤w0.heap.size:=hb0.size
 clear hw0
 have M1:True:=trivial
 have T1:=Sts.of X1 (by intro v hv;simp at hv;rcases hv with rfl|rfl|rfl|rfl <;> first|exact NotInt.bool _|exact NotInt.slice _ _ _)
 have hS0:=S4_4_next (Below.refl _ w0).drew ⟨X0.c0,X0.c1,X0.c2,X0.c3,X1.so 0,X1.free_ 0,T1,X1.so 1,X1.free_ 1,T1,X1.so 2,X1.free_ 2,T1,X1.so 3,X1.free_ 3,T1,hb0,hs0⟩
 clear X0 X1
 go_region_held3 (fun w1=>w1.cell? ⟨w.heap.size,0,none⟩=some (.bool s)∧w1.cell? ⟨w.heap.size,1,none⟩=some (.slice p n c)∧w1.cell? ⟨w.heap.size,2,none⟩=some (.bool t)∧w1.cell? ⟨w.heap.size,3,none⟩=some (.slice q m d)∧w1.cell? ⟨w.heap.size+1,0,none⟩=some (cellOf w1 ⟨w.heap.size+1,0,none⟩)∧w1.frozen? ⟨w.heap.size+1,0,none⟩=false∧Sts w1 (w.heap.size+1)∧w1.cell? ⟨w.heap.size+1,1,none⟩=some (cellOf w1 ⟨w.heap.size+1,1,none⟩)∧w1.frozen? ⟨w.heap.size+1,1,none⟩=false∧Sts w1 (w.heap.size+1)∧w1.cell? ⟨w.heap.size+1,2,none⟩=some (cellOf w1 ⟨w.heap.size+1,2,none⟩)∧w1.frozen? ⟨w.heap.size+1,2,none⟩=false∧Sts w1 (w.heap.size+1)∧w1.cell? ⟨w.heap.size+1,3,none⟩=some (cellOf w1 ⟨w.heap.size+1,3,none⟩)∧w1.frozen? ⟨w.heap.size+1,3,none⟩=false∧Sts w1 (w.heap.size+1)∧Below w.heap.size w w1∧w.heap.size≤w1.heap.size)
  (first|with_reducible exact hS0 |(refine S4_4_next (by with_reducible assumption) ?_;assumption) |(refine S4_4_put ?_ ?_ ?_ ?_ ?_ ?_ ?_ ?_ ?_ ?_ ?_ ?_ ?_ ?_ ?_ ?_ ?_ ?_ ?_ ?_ ?_ ?_ ?_ ?_ ?_ <;> first|assumption|exact NotInt.bool _|exact NotInt.slice _ _ _ |(dsimp only;omega) |(simp;done)))
  (first
   |(go_at_call 113;refine(HC1.out _ (S4_4_below (by with_reducible assumption))).mono ?_;rintro e w2 ⟨⟨s2,p2,n2,e2,rfl,hz2⟩,hb2⟩;have HZ2:=Kh hz2;have HB2:=Kh (show Below w.heap.size w w2 from Below.trans (S4_4_below (by with_reducible assumption)) (Below.mono hb2 (Below.size (S4_4_below (by with_reducible assumption)))));have HOV:=Kh (c_sOver s2 p2 n2 e2 (-x.num) t q m d x.den w2 HZ2.out.raw (HD.out _ HB2.out).raw (by rw[← HZ2.out.2.1];exact HS1.out) (by have:=HS.out;omega));clear hz2)
   |(go_at_call 97;refine HOV.out.mono ?_;rintro e w4 ⟨⟨s4,p4,n4,e4,t4,q4,m4,d4,rfl,hq4⟩,hb4⟩;clear hb2;obtain⟨⟨hR0,hT⟩,⟨hR1,_⟩,⟨hR2,_⟩,⟨hR3,_⟩⟩:=S4_4_end hb4 (by with_reducible assumption);have hq5:=Kh (hq4.put4 hT (.bool s4) (.slice p4 n4 e4) (.bool t4) (.slice q4 m4 d4) (NotInt.bool _) (NotInt.slice _ _ _) (NotInt.bool _));clear hq4 hT))
 go_wp2
 try simp only[Exit.inBlock,Exit.then]
 refine bodyPost_ret (by simp[results,Tryz.results61,go_sem,hR0,hR1,hR2,hR3];try rfl) rfl ?_
 exact⟨⟨s4,p4,n4,e4,t4,q4,m4,d4,rfl,HV.out▸hq5.out⟩,S4_4_below (by assumption)⟩
theorem rat_div (x y:Rat) (hy:y≠0):Rat.divInt (x.num*y.den) (x.den*y.num)=x / y:=by
 have h1:(x.den:Int)≠0:=by have:=x.den_pos;omega
 have h2:(y.den:Int)≠0:=by have:=y.den_pos;omega
 have h3:y.num≠0:=fun e=>hy (Rat.num_eq_zero.1 e)
 have e1:((x.den:Int):Rat)≠0:=fun e=>h1 (by exact_mod_cast e)
 have e2:((y.den:Int):Rat)≠0:=fun e=>h2 (by exact_mod_cast e)
 have e3:(y.num:Rat)≠0:=fun e=>h3 (by exact_mod_cast e)
 have hx:x=(x.num:Rat) / ((x.den:Int):Rat):=by rw[← Rat.divInt_eq_div];exact(rat_self x).symm
 have hy2:y=(y.num:Rat) / ((y.den:Int):Rat):=by rw[← Rat.divInt_eq_div];exact(rat_self y).symm
 rw[Rat.divInt_eq_div,Rat.intCast_mul,Rat.intCast_mul]
 generalize (x.num:Rat)=a at *
 generalize ((x.den:Int):Rat)=b at *
 generalize (y.num:Rat)=c at *
 generalize ((y.den:Int):Rat)=d at *
 rw[hx,hy2]
 grind
theorem c_sRatio (s:Bool) (p:Option Addr) (n c:Nat) (t:Bool) (q:Option Addr) (m d:Nat) (x:Rat) (s':Bool) (p':Option Addr) (n' c':Nat) (t':Bool) (q':Option Addr) (m' d':Nat) (y:Rat) (w:World) (h:Qs w s p n c t q m d x) (h':Qs w s' p' n' c' t' q' m' d' y) (hy0:y≠0) (hn:hq x≤1099511627770) (hm:hq y≤1099511627770):
  Calls Tryz.prog 174 #[.agg #[.bool s,.slice p n c,.bool t,.slice q m d],.agg #[.bool s',.slice p' n' c',.bool t',.slice q' m' d']] w fun e w'=>RetQ w' e (x / y)∧Below w.heap.size w w':=by
 have HN1:=Kh (fun w1 (hb:Below w.heap.size w w1)=>by
  have h1:=c_sNormal s p n c x.num t q m d x.den w1 (h.1.raw.keep hb) (h.2.raw.keep hb) (by have:=h.sizes;omega) (by have:=h.sizes;omega)
  rw[rat_self]at h1
  exact h1)
 have HN2:=Kh (fun w1 (hb:Below w.heap.size w w1)=>by
  have h1:=c_sNormal s' p' n' c' y.num t' q' m' d' y.den w1 (h'.1.raw.keep hb) (h'.2.raw.keep hb) (by have:=h'.sizes;omega) (by have:=h'.sizes;omega)
  rw[rat_self]at h1
  exact h1)
 have HX:=Kh hn
 have HY0:=Kh hy0
 have HY:=Kh hm
 clear h h' hn hm hy0
 go_enter Tryz.func174,Tryz.ntmps174
 go_upto_region 1 with(fail)
 obtain⟨wc,hwc,X0,X1,X2,hb0⟩:=bx3 w #[.bool s,.slice p n c,.bool t,.slice q m d] 35 #[.bool s',.slice p' n' c',.bool t',.slice q' m' d'] 35 #[.bool false,.slice none 0 0,.bool false,.slice none 0 0] 35
 rw[hwc]
 have hs0:w.heap.size≤wc.heap.size:=hb0.size
 clear hwc
 have HBC:=Kh hb0
 have HR0:=Kh X2
 have hlt:w.heap.size+1+1<wc.heap.size:=X2.lt
 go_cut [5,6]from 7 to 10 (fun v5 v6 wd=>∃ g5 g6,v5=.pointer (some ⟨g5,0,none⟩)∧v6=.pointer (some ⟨g6,0,none⟩)∧g5≠g6∧wc.heap.size≤g5∧wc.heap.size≤g6∧TwoQ wd g5 g6 x y∧Below wc.heap.size wc wd)
 case first=>
  have hS1:wc.cell? ⟨w.heap.size,0,none⟩=some (.bool s)∧wc.cell? ⟨w.heap.size,1,none⟩=some (.slice p n c)∧wc.cell? ⟨w.heap.size,2,none⟩=some (.bool t)∧wc.cell? ⟨w.heap.size,3,none⟩=some (.slice q m d)∧wc.cell? ⟨w.heap.size+1,0,none⟩=some (.bool s')∧wc.cell? ⟨w.heap.size+1,1,none⟩=some (.slice p' n' c')∧wc.cell? ⟨w.heap.size+1,2,none⟩=some (.bool t')∧wc.cell? ⟨w.heap.size+1,3,none⟩=some (.slice q' m' d')∧Below wc.heap.size wc wc∧wc.heap.size≤wc.heap.size:=⟨X0.at_ 0 rfl,X0.at_ 1 rfl,X0.at_ 2 rfl,X0.at_ 3 rfl,X1.at_ 0 rfl,X1.at_ 1 rfl,X1.at_ 2 rfl,X1.at_ 3 rfl,Below.refl _ _,Nat.le_refl _⟩
  have hS0:wc.drew.cell? ⟨w.heap.size,0,none⟩=some (.bool s)∧wc.drew.cell? ⟨w.heap.size,1,none⟩=some (.slice p n c)∧wc.drew.cell? ⟨w.heap.size,2,none⟩=some (.bool t)∧wc.drew.cell? ⟨w.heap.size,3,none⟩=some (.slice q m d)∧wc.drew.cell? ⟨w.heap.size+1,0,none⟩=some (.bool s')∧wc.drew.cell? ⟨w.heap.size+1,1,none⟩=some (.slice p' n' c')∧wc.drew.cell? ⟨w.heap.size+1,2,none⟩=some (.bool t')∧wc.drew.cell? ⟨w.heap.size+1,3,none⟩=some (.slice q' m' d')∧Below wc.heap.size wc wc.drew∧wc.heap.size≤wc.drew.heap.size:=S8_0_next (Below.refl _ wc).drew hS1
  clear X0 X1
  have M1:True:=trivial
  go_region_held3 (fun w1=>w1.cell? ⟨w.heap.size,0,none⟩=some (.bool s)∧w1.cell? ⟨w.heap.size,1,none⟩=some (.slice p n c)∧w1.cell? ⟨w.heap.size,2,none⟩=some (.bool t)∧w1.cell? ⟨w.heap.size,3,none⟩=some (.slice q m d)∧w1.cell? ⟨w.heap.size+1,0,none⟩=some (.bool s')∧w1.cell? ⟨w.heap.size+1,1,none⟩=some (.slice p' n' c')∧w1.cell? ⟨w.heap.size+1,2,none⟩=some (.bool t')∧w1.cell? ⟨w.heap.size+1,3,none⟩=some (.slice q' m' d')∧Below wc.heap.size wc w1∧wc.heap.size≤w1.heap.size)
   (first|with_reducible exact hS0 |(refine S8_0_next (by with_reducible assumption) ?_;assumption)|exact S8_0_next (by go_grown) hS1)
   (first
    |(go_at_call 116;clear M1;refine(HN1.out _ (HBC.out.trans ((S8_0_below (by with_reducible assumption)).mono HBC.out.size))).mono ?_;rintro e w2 ⟨⟨s2,p2,n2,e2,t2,q2,m2,f2,rfl,hz2⟩,hb2⟩;have HA2:=Kh hz2;have hz2s:wc.heap.size≤w2.heap.size:=Nat.le_trans (S8_0_size (by with_reducible assumption)) (Below.size hb2);have hw2:Below wc.heap.size wc w2:=Below.trans (S8_0_below (by with_reducible assumption)) (Below.mono hb2 (S8_0_size (by with_reducible assumption)));(first|have fa:=qfr2 (B:=wc.heap.size) (W:=wc.drew) (g:=wc.heap.size) rfl (Nat.le_refl _) hb2|have fa:=qfr1 (B:=wc.heap.size) (W:=wc.drew) (g:=wc.heap.size) rfl (Nat.le_refl _) hb2|skip);(try have fb:=qfr1 (B:=wc.heap.size) (W:=wc.drew.alloc (.cells #[.bool false,.slice none 0 0,.bool false,.slice none 0 0] 35)) (g:=wc.heap.size+1) (by simp) (by omega) hb2);clear hz2)
    |(go_at_call 116;refine(HN2.out _ (HBC.out.trans ((S8_0_below (by with_reducible assumption)).mono HBC.out.size))).mono ?_;rintro e w3 ⟨⟨s3,p3,n3,e3,t3,q3,m3,f3,rfl,hz3⟩,hb3⟩;have HA3:=Kh (show Qs w3 s2 p2 n2 e2 t2 q2 m2 f2 x∧Qs w3 s3 p3 n3 e3 t3 q3 m3 f3 y from⟨by first|exact HA2.out.keep hb3|exact(HA2.out.keep ((Below.refl _ _).alloc (Nat.le_refl _) _)).keep hb3|exact((HA2.out.keep ((Below.refl _ _).alloc (Nat.le_refl _) _)).keep ((Below.refl _ _).alloc (Nat.le_refl _) _)).keep hb3,hz3⟩);have hz3s:wc.heap.size≤w3.heap.size:=Nat.le_trans (S8_0_size (by with_reducible assumption)) (Below.size hb3);have hw3:Below wc.heap.size wc w3:=Below.trans (S8_0_below (by with_reducible assumption)) (Below.mono hb3 (S8_0_size (by with_reducible assumption)));(first|have ga:=qfrn0 fa hb3|have ga:=qfrn1 fa hb3|skip);(try have gb:=qfrn0 fb hb3);(first|have gc:=qfr2 (B:=wc.heap.size) (W:=w2) (g:=w2.heap.size) rfl hz2s hb3|have gc:=qfr1 (B:=wc.heap.size) (W:=w2) (g:=w2.heap.size) rfl hz2s hb3|skip);(try have gd:=qfr1 (B:=wc.heap.size) (W:=w2.alloc (.cells #[.bool false,.slice none 0 0,.bool false,.slice none 0 0] 35)) (g:=w2.heap.size+1) (by simp) (by omega) hb3);(try have ha1:=fun o=>qfr_al ga o);(try have hb1:=fun o=>qfr_al gb o);(try have hc1:=fun o=>qfr_al gc o);(try have hd1:=fun o=>qfr_al gd o);have hnn:=qfr_new hz3s;(try have qga:=And.intro (Nat.ne_of_lt ga.2.2.2.2.2.2.2.2.2.lt) (Nat.ne_of_gt ga.2.2.2.2.2.2.2.2.2.lt));(try have qgb:=And.intro (Nat.ne_of_lt gb.2.2.2.2.2.2.2.2.2.lt) (Nat.ne_of_gt gb.2.2.2.2.2.2.2.2.2.lt));(try have qgc:=And.intro (Nat.ne_of_lt gc.2.2.2.2.2.2.2.2.2.lt) (Nat.ne_of_gt gc.2.2.2.2.2.2.2.2.2.lt));(try have qgd:=And.intro (Nat.ne_of_lt gd.2.2.2.2.2.2.2.2.2.lt) (Nat.ne_of_gt gd.2.2.2.2.2.2.2.2.2.lt));(try have qfa:=And.intro (Nat.ne_of_lt fa.2.2.2.2.2.2.2.2.2.lt) (Nat.ne_of_gt fa.2.2.2.2.2.2.2.2.2.lt));(try have qfb:=And.intro (Nat.ne_of_lt fb.2.2.2.2.2.2.2.2.2.lt) (Nat.ne_of_gt fb.2.2.2.2.2.2.2.2.2.lt));(try have hb2s:=Below.size hb2);(try have hb3s:=Below.size hb3);clear hz3 HA2))
  all_goals go_wp2
  all_goals go_meet
  all_goals refine⟨_,_,rfl,rfl,?_,?_,?_,?_,?_⟩
  all_goals first
   |(with_reducible exact twoq_new12 HA3.out)
   |(with_reducible exact twoq_new21 HA3.out)
   |(with_reducible exact twoq_half ga.2.2.2.2.2.2.2.2.2 HA3.out)
   |(with_reducible exact twoq_half gb.2.2.2.2.2.2.2.2.2 HA3.out)
   |(with_reducible exact twoq_half gc.2.2.2.2.2.2.2.2.2 HA3.out)
   |(with_reducible exact twoq_half gd.2.2.2.2.2.2.2.2.2 HA3.out)
   |(with_reducible exact twoq_top ga.2.2.2.2.2.2.2.2.2 HA3.out)
   |(with_reducible exact twoq_top gb.2.2.2.2.2.2.2.2.2 HA3.out)
   |(with_reducible exact twoq_top gc.2.2.2.2.2.2.2.2.2 HA3.out)
   |(with_reducible exact twoq_top gd.2.2.2.2.2.2.2.2.2 HA3.out)
   |(with_reducible exact twoq_put (by omega) ga.2.2.2.2.2.2.2.2.2 gb.2.2.2.2.2.2.2.2.2 HA3.out.1 HA3.out.2)
   |(with_reducible exact twoq_put (by omega) ga.2.2.2.2.2.2.2.2.2 gc.2.2.2.2.2.2.2.2.2 HA3.out.1 HA3.out.2)
   |(with_reducible exact twoq_put (by omega) ga.2.2.2.2.2.2.2.2.2 gd.2.2.2.2.2.2.2.2.2 HA3.out.1 HA3.out.2)
   |(with_reducible exact twoq_put (by omega) gb.2.2.2.2.2.2.2.2.2 ga.2.2.2.2.2.2.2.2.2 HA3.out.1 HA3.out.2)
   |(with_reducible exact twoq_put (by omega) gb.2.2.2.2.2.2.2.2.2 gc.2.2.2.2.2.2.2.2.2 HA3.out.1 HA3.out.2)
   |(with_reducible exact twoq_put (by omega) gb.2.2.2.2.2.2.2.2.2 gd.2.2.2.2.2.2.2.2.2 HA3.out.1 HA3.out.2)
   |(with_reducible exact twoq_put (by omega) gc.2.2.2.2.2.2.2.2.2 ga.2.2.2.2.2.2.2.2.2 HA3.out.1 HA3.out.2)
   |(with_reducible exact twoq_put (by omega) gc.2.2.2.2.2.2.2.2.2 gb.2.2.2.2.2.2.2.2.2 HA3.out.1 HA3.out.2)
   |(with_reducible exact twoq_put (by omega) gc.2.2.2.2.2.2.2.2.2 gd.2.2.2.2.2.2.2.2.2 HA3.out.1 HA3.out.2)
   |(with_reducible exact twoq_put (by omega) gd.2.2.2.2.2.2.2.2.2 ga.2.2.2.2.2.2.2.2.2 HA3.out.1 HA3.out.2)
   |(with_reducible exact twoq_put (by omega) gd.2.2.2.2.2.2.2.2.2 gb.2.2.2.2.2.2.2.2.2 HA3.out.1 HA3.out.2)
   |(with_reducible exact twoq_put (by omega) gd.2.2.2.2.2.2.2.2.2 gc.2.2.2.2.2.2.2.2.2 HA3.out.1 HA3.out.2)
   | omega
   | go_grown
 case rest=>
  obtain⟨g5,g6,rfl,rfl,hne,hg5,hg6,⟨s1,p1,n1,c1,t1,q1,m1,d1,s2,p2,n2,c2,t2,q2,m2,d2,XA,XB,zx,zy⟩,hbd⟩:=hcut
  have hlt5:w.heap.size+1+1<g5:=by omega
  have hlt6:w.heap.size+1+1<g6:=by omega
  have XR:=bk HR0 hbd
  have hbw:=HBC.out.trans (hbd.mono HBC.out.size)
  have TR:=Sts.qbox XR
  obtain⟨we,rfl⟩:∃ we:World,we=wc:=⟨_,rfl⟩
  have sx:=zx.sizes
  have sy:=zy.sizes
  have hx:=HX.out
  have hy:=HY.out
  have HQX:=Kh zx
  have HQY:=Kh zy
  have HM1:=Kh (fun w1 (hb:Below we.heap.size we w1)=>c_rMul s1 p1 n1 c1 x.num t2 q2 m2 d2 y.den w1 (HQX.out.1.raw.keep hb) (HQY.out.2.raw.keep hb) (by omega) (by omega))
  have HM2:=Kh (fun w1 (hb:Below we.heap.size we w1)=>c_rMul t1 q1 m1 d1 x.den s2 p2 n2 c2 y.num w1 (HQX.out.2.raw.keep hb) (HQY.out.1.raw.keep hb) (by omega) (by omega))
  have HS1:=Kh (show nd (x.num*y.den).natAbs≤2199023255540 by rw[Int.natAbs_mul];have:=nd_mul x.num.natAbs (y.den:Int).natAbs;have:=hq_num x;have:=hq_den y;rw[Int.natAbs_natCast]at *;omega)
  have HS2:=Kh (show nd ((x.den:Int)*y.num).natAbs≤2199023255540 by rw[Int.natAbs_mul];have:=nd_mul (x.den:Int).natAbs y.num.natAbs;have:=hq_num y;have:=hq_den x;rw[Int.natAbs_natCast]at *;omega)
  have HV:=Kh (rat_div x y HY0.out)
  clear hx hy sx sy zx zy HN1 HN2 HX HY X0 X1 X2 hb0 hs0 hbd hg5 hg6 hlt HBC HR0 HQX HQY hne
  go_upto_region 2 with(fail)
  have M2:True:=trivial
  have hS0:=S8_4_next (Below.refl _ we).drew ⟨XA.c0,XA.c1,XA.c2,XA.c3,XB.c0,XB.c1,XB.c2,XB.c3,XR.so 0,XR.free_ 0,TR,XR.so 1,XR.free_ 1,TR,XR.so 2,XR.free_ 2,TR,XR.so 3,XR.free_ 3,TR,hbw,Below.size (show Below w.heap.size w we from hbw)⟩
  clear XA XB XR TR
  have M1:True:=trivial
  go_region_held3 (fun w1=>w1.cell? ⟨g5,0,none⟩=some (.bool s1)∧w1.cell? ⟨g5,1,none⟩=some (.slice p1 n1 c1)∧w1.cell? ⟨g5,2,none⟩=some (.bool t1)∧w1.cell? ⟨g5,3,none⟩=some (.slice q1 m1 d1)∧w1.cell? ⟨g6,0,none⟩=some (.bool s2)∧w1.cell? ⟨g6,1,none⟩=some (.slice p2 n2 c2)∧w1.cell? ⟨g6,2,none⟩=some (.bool t2)∧w1.cell? ⟨g6,3,none⟩=some (.slice q2 m2 d2)∧w1.cell? ⟨w.heap.size+1+1,0,none⟩=some (cellOf w1 ⟨w.heap.size+1+1,0,none⟩)∧w1.frozen? ⟨w.heap.size+1+1,0,none⟩=false∧Sts w1 (w.heap.size+1+1)∧w1.cell? ⟨w.heap.size+1+1,1,none⟩=some (cellOf w1 ⟨w.heap.size+1+1,1,none⟩)∧w1.frozen? ⟨w.heap.size+1+1,1,none⟩=false∧Sts w1 (w.heap.size+1+1)∧w1.cell? ⟨w.heap.size+1+1,2,none⟩=some (cellOf w1 ⟨w.heap.size+1+1,2,none⟩)∧w1.frozen? ⟨w.heap.size+1+1,2,none⟩=false∧Sts w1 (w.heap.size+1+1)∧w1.cell? ⟨w.heap.size+1+1,3,none⟩=some (cellOf w1 ⟨w.heap.size+1+1,3,none⟩)∧w1.frozen? ⟨w.heap.size+1+1,3,none⟩=false∧Sts w1 (w.heap.size+1+1)∧Below w.heap.size w w1∧w.heap.size≤w1.heap.size)
   (first|with_reducible exact hS0 |(refine S8_4_next (by with_reducible assumption) ?_;assumption) |(refine S8_4_put ?_ ?_ ?_ ?_ ?_ ?_ ?_ ?_ ?_ ?_ ?_ ?_ ?_ ?_ ?_ ?_ ?_ ?_ ?_ ?_ ?_ ?_ ?_ ?_ ?_ ?_ ?_ ?_ ?_ ?_ ?_ ?_ ?_ ?_ ?_ ?_ ?_ ?_ ?_ ?_ ?_ <;> first|assumption|exact NotInt.bool _|exact NotInt.slice _ _ _ |(dsimp only;omega) |(simp;done)))
   (first
    |(go_at_call 98;clear M1;refine(HM1.out _ (by first|exact(Below.refl _ _).drew|exact Below.refl _ _)).mono ?_;rintro e w2 ⟨⟨s3,p3,n3,e3,rfl,hz3⟩,hb3⟩;have HA3:=Kh hz3;have HB3:=Kh (show Below we.heap.size we w2 from(by first|exact(Below.refl _ we).drew.trans hb3|exact hb3));clear hz3)
    |(go_at_call 98;clear M2;refine(HM2.out _ HB3.out).mono ?_;rintro e w3 ⟨⟨s4,p4,n4,e4,rfl,hz4⟩,hb4⟩;have HB4:=bt HB3 hb4;have HA4:=Kh (show Zs w3 s3 p3 n3 e3 (x.num*y.den)∧Zs w3 s4 p4 n4 e4 (x.den*y.num)from⟨HA3.out.keep hb4,hz4⟩);have HOV:=Kh (c_sOver s3 p3 n3 e3 (x.num*y.den) s4 p4 n4 e4 (x.den*y.num) w3 HA4.out.1.raw HA4.out.2.raw (by rw[← HA4.out.1.2.1];have:=HS1.out;omega) (by rw[← HA4.out.2.2.1];have:=HS2.out;omega));clear hz4 hb3 HA3 HB3)
    |(go_at_call 97;refine HOV.out.mono ?_;rintro e w6 ⟨⟨s7,p7,n7,e7,t7,q7,m7,d7,rfl,hq7⟩,hb7⟩;clear hb4;obtain⟨⟨hR0,hT⟩,⟨hR1,_⟩,⟨hR2,_⟩,⟨hR3,_⟩⟩:=S8_4_end hb7 (by with_reducible assumption);have hq8:=Kh (hq7.put4 hT (.bool s7) (.slice p7 n7 e7) (.bool t7) (.slice q7 m7 d7) (NotInt.bool _) (NotInt.slice _ _ _) (NotInt.bool _));clear hq7 hT))
  go_wp2
  try simp only[Exit.inBlock,Exit.then]
  refine bodyPost_ret (by simp[results,Tryz.results174,go_sem,hR0,hR1,hR2,hR3];try rfl) rfl ?_
  exact⟨⟨s7,p7,n7,e7,t7,q7,m7,d7,rfl,HV.out▸hq8.out⟩,S8_4_below (by assumption)⟩
theorem c_sMulQ2 (s:Bool) (p:Option Addr) (n c:Nat) (t:Bool) (q:Option Addr) (m d:Nat) (x:Rat) (s':Bool) (p':Option Addr) (n' c':Nat) (t':Bool) (q':Option Addr) (m' d':Nat) (y:Rat) (w:World) (h:Qs w s p n c t q m d x) (h':Qs w s' p' n' c' t' q' m' d' y) (hx:hq x≤1000000000) (hy:hq y≤1000000000):
  Calls Tryz.prog 52 #[.agg #[.bool s,.slice p n c,.bool t,.slice q m d],.agg #[.bool s',.slice p' n' c',.bool t',.slice q' m' d']] w fun e w'=>RetQ w' e (x*y)∧Below w.heap.size w w':=by
 have h1:=c_sMul s p n c x.num t q m d x.den s' p' n' c' y.num t' q' m' d' y.den w h.1.raw h.2.raw h'.1.raw h'.2.raw (by have:=h.sizes;omega) (by have:=h.sizes;omega) (by have:=h'.sizes;omega) (by have:=h'.sizes;omega)
 rw[rat_self,rat_self]at h1
 exact h1
/-! Everything but one block stays -/
theorem but_below {w w':World} (g:Nat) (h:Below w.heap.size w w'):w.grownBy w' (some g):=⟨h.os,h.tape,h.output,h.size,fun k hk _=>h.block k hk⟩
theorem but_put (w:World) (g i:Nat) (v:Value):w.grownBy (w.setCell ⟨g,i,none⟩ v) (some g):=
 ⟨rfl,rfl,rfl,by simp,fun k hk hne=>Below.heap_setCell w ⟨g,i,none⟩ v k (fun e=>hne (by rw[e]))⟩
theorem but_put4 (w:World) (g i j k l:Nat) (v0 v1 v2 v3:Value):w.grownBy ((((w.setCell ⟨g,i,none⟩ v0).setCell ⟨g,j,none⟩ v1).setCell ⟨g,k,none⟩ v2).setCell ⟨g,l,none⟩ v3) (some g):=
 (((but_put w g i v0).trans (but_put _ g j v1)).trans (but_put _ g k v2)).trans (but_put _ g l v3)
theorem I32.but {w w':World} {g:Nat} (hs:Sts w g) (h:w.grownBy w' (some g)):I32 w w':=
 ⟨h.size,fun g' i n e=>h.cell e (fun e2=>by
  injection e2 with e2
  exact hs.2 i _ (by rw[← e2];exact e) _ _ rfl)⟩
theorem QE.but {P:FP} (hP:Solid P) {w w':World} {g g' i:Nat} (hs:Sts w g) (h:w.grownBy w' (some g)) (hne:g'≠g) (hq:QE P w g' i):QE P w' g' i:=by
 obtain⟨s,p,n,c,t,q,m,d,h0,h1,h2,h3,h4⟩:=hq
 have hk:∀ j v,w.cell? ⟨g',j,none⟩=some v→w'.cell? ⟨g',j,none⟩=some v:=fun j v e=>h.cell e (fun e2=>by injection e2 with e2;exact hne e2)
 exact⟨s,p,n,c,t,q,m,d,hk _ _ h0,hk _ _ h1,hk _ _ h2,hk _ _ h3,hP _ _ _ _ _ _ _ _ _ _ (I32.but hs h) h4⟩
def PL (g:Nat) (f:Nat→Rat) (w:World) (v:Value) (n:Nat):Prop:=∃ g' cap,v=.slice (some ⟨g',0,none⟩) n cap∧g<g'∧g'<w.heap.size∧∀ j,j<n→QE (IsQ (f j)) w g' (j*4)
theorem PL.keep {g:Nat} {f:Nat→Rat} {w w':World} {v:Value} {n:Nat} (h:PL g f w v n) (hb:Below w.heap.size w w'):PL g f w' v n:=by
 obtain⟨g',cap,e,h1,h2,h3⟩:=h
 exact⟨g',cap,e,h1,Nat.lt_of_lt_of_le h2 hb.size,fun j hj=>(h3 j hj).keep (IsQ.solid _) hb⟩
theorem PL.but {g:Nat} {f:Nat→Rat} {w w':World} {v:Value} {n:Nat} (h:PL g f w v n) (hs:Sts w g) (hb:w.grownBy w' (some g)):PL g f w' v n:=by
 obtain⟨g',cap,e,h1,h2,h3⟩:=h
 exact⟨g',cap,e,h1,Nat.lt_of_lt_of_le h2 hb.size,fun j hj=>(h3 j hj).but (IsQ.solid _) hs hb (by omega)⟩
theorem PL.ql {g:Nat} {f:Nat→Rat} {w:World} {v:Value} {n:Nat} (h:PL g f w v n):QL (fun j=>IsQ (f j)) w v n:=by
 obtain⟨g',cap,e,h1,h2,h3⟩:=h
 exact .inr ⟨g',0,cap,e,h2,fun j hj=>by rw[Nat.zero_add];exact h3 j hj⟩
theorem PL.congr {g:Nat} {f f':Nat→Rat} {w:World} {v:Value} {n:Nat} (h:PL g f w v n) (e:∀ j,j<n→f j=f' j):PL g f' w v n:=by
 obtain⟨g',cap,e',h1,h2,h3⟩:=h
 exact⟨g',cap,e',h1,h2,fun j hj=>by rw[← e j hj];exact h3 j hj⟩
theorem below_but {B:Nat} {b w w':World} {g:Nat} (h:Below B b w) (hg:w.grownBy w' (some g)) (h1:B≤w.heap.size) (h2:B≤g):Below B b w':=h.grown hg h1 (fun k hk=>by injection hk with hk;omega)
theorem nd64 {a:Int} (h:-1073741824≤a) (h':a≤1073741824):nd a.natAbs≤2:=nd_le.2 (show a.natAbs<4294967296 ^ 2 by omega)
/-! The values -/
def tm (a b:Int) (f:Nat→Int) (k j:Nat):Int:=(if 0<j∧j≤k then f (j - 1)*a else 0)+(if j<k then f j*b else 0)
def tm5 (a b:Int) (f:Nat→Int) (k j:Nat):Int:=if j=k then tm a b f k k+f k*b else tm a b f k j
theorem tm_zero (a b:Int) (f:Nat→Int) (j:Nat):tm a b f 0 j=0:=by
 unfold tm;rw[if_neg (by omega),if_neg (by omega)];rfl
theorem tm5_far {a b:Int} {f:Nat→Int} {k j:Nat} (h:j≠k):tm a b f k j=tm5 a b f k j:=by unfold tm5;rw[if_neg h]
theorem tm5_at (a b:Int) (f:Nat→Int) (k:Nat):tm5 a b f k k=tm a b f k k+f k*b:=by unfold tm5;rw[if_pos rfl]
theorem tm_far {a b:Int} {f:Nat→Int} {k j:Nat} (h:j≠k+1):tm5 a b f k j=tm a b f (k+1) j:=by
 unfold tm5
 by_cases h1:j=k
 ·subst h1
  rw[if_pos rfl]
  unfold tm
  rw[if_neg (Nat.lt_irrefl j),if_pos (Nat.lt_succ_self j)]
  by_cases h2:0<j
  ·rw[if_pos ⟨h2,Nat.le_refl _⟩,if_pos ⟨h2,by omega⟩];omega
  ·rw[if_neg (by omega),if_neg (by omega)];omega
 ·rw[if_neg h1]
  unfold tm
  by_cases h2:j<k
  ·rw[if_pos h2,if_pos (show j<k+1 by omega)]
   by_cases h3:0<j
   ·rw[if_pos ⟨h3,by omega⟩,if_pos ⟨h3,by omega⟩]
   ·rw[if_neg (by omega),if_neg (by omega)]
  ·rw[if_neg h2,if_neg (show ¬ j<k+1 by omega),if_neg (by omega),if_neg (by omega)]
theorem tm_at (a b:Int) (f:Nat→Int) (k:Nat):tm a b f (k+1) (k+1)=tm5 a b f k (k+1)+f k*a:=by
 unfold tm5
 rw[if_neg (by omega)]
 unfold tm
 rw[if_pos ⟨Nat.succ_pos k,Nat.le_refl _⟩,if_neg (Nat.lt_irrefl _),if_neg (show ¬ (0<k+1∧k+1≤k)by omega),if_neg (show ¬ k+1<k by omega),Nat.add_sub_cancel]
 omega
theorem tm_all {a b:Int} {f:Nat→Int} {n j:Nat} (h:j≤n) (hz:f n=0):tm a b f n j=lin a b f j:=by
 unfold tm lin
 by_cases h1:0<j
 ·rw[if_pos ⟨h1,h⟩,if_pos h1,Int.mul_comm]
  by_cases h2:j<n
  ·rw[if_pos h2,Int.mul_comm (f j)]
  ·obtain rfl:j=n:=by omega
   rw[if_neg h2,hz,Int.mul_zero]
 ·rw[if_neg (by omega),if_neg h1]
  by_cases h2:j<n
  ·rw[if_pos h2,Int.mul_comm]
  ·obtain rfl:j=n:=by omega
   rw[if_neg h2,hz,Int.mul_zero]
theorem nd_mul1 {x a:Int} {K:Nat} (hx:nd x.natAbs≤K) (ha:nd a.natAbs≤2):nd (x*a).natAbs≤K+2:=by
 rw[Int.natAbs_mul];have:=nd_mul x.natAbs a.natAbs;omega
theorem tm_size {a b:Int} {f:Nat→Int} {K:Nat} (hf:∀ j,nd (f j).natAbs≤K) (ha:nd a.natAbs≤2) (hb:nd b.natAbs≤2) (k j:Nat):nd (tm a b f k j).natAbs≤K+3:=by
 unfold tm
 refine nd_add_int _ _ (K:=K+2) ?_ ?_
 ·split
  ·exact nd_mul1 (hf _) ha
  ·simp[nd_zero]
 ·split
  ·exact nd_mul1 (hf _) hb
  ·simp[nd_zero]
theorem tm5_size {a b:Int} {f:Nat→Int} {K:Nat} (hf:∀ j,nd (f j).natAbs≤K) (ha:nd a.natAbs≤2) (hb:nd b.natAbs≤2) (k j:Nat):nd (tm5 a b f k j).natAbs≤K+4:=by
 unfold tm5
 split
 ·refine nd_add_int _ _ (K:=K+3) (tm_size hf ha hb k k) ?_
  have:=nd_mul1 (hf k) hb;omega
 ·have:=tm_size hf ha hb k j;omega
theorem intRow:(Tryz.prog.info? 3).map (fun i=>(i.zero,i.size,i.bytes))=some (some (.int .i64 0),1,8):=by kernel_rfl
theorem makeI (n:Nat) (h:n≤1000000) (w:World):
  (Instr.makeSlice 49 (.int .i64 (n:Int)) (.int .i64 (n:Int))).run Tryz.prog w=.ok (.slice (some ⟨w.heap.size,0,none⟩) n n) (w.alloc (.cells (madeCells #[.int .i64 0] n) 3)):=
 run_make_row' 49 3 (.int .i64 0) 8 Tryz.underlying49 intRow rfl .i64 .i64 n (by omega) (by omega) w
theorem ZE.but {z:Int} {w w':World} {g g' i:Nat} (hs:Sts w g) (h:w.grownBy w' (some g)) (hne:g'≠g) (hq:ZE z w g' i):ZE z w' g' i:=by
 obtain⟨s,p,n,c,h0,h1,h4⟩:=hq
 have hk:∀ j v,w.cell? ⟨g',j,none⟩=some v→w'.cell? ⟨g',j,none⟩=some v:=fun j v e=>h.cell e (fun e2=>by injection e2 with e2;exact hne e2)
 exact⟨s,p,n,c,hk _ _ h0,hk _ _ h1,h4.i32 (I32.but hs h)⟩
def Cells2 (w:World) (g i:Nat) (s:Bool) (p:Option Addr) (n c:Nat):Prop:=w.cell? ⟨g,i,none⟩=some (.bool s)∧w.cell? ⟨g,i+1,none⟩=some (.slice p n c)
theorem Cells2.keep {w w':World} {g i:Nat} {s:Bool} {p:Option Addr} {n c:Nat} (h:Cells2 w g i s p n c) (hb:Below w.heap.size w w'):Cells2 w' g i s p n c:=by
 have hk:∀ j v,w.cell? ⟨g,j,none⟩=some v→w'.cell? ⟨g,j,none⟩=some v:=fun j v e=>(hb.cell (p:=⟨g,j,none⟩) (World.block_lt_of_cell? w ⟨g,j,none⟩ e)).trans e
 exact⟨hk _ _ h.1,hk _ _ h.2⟩
theorem but_put2 (w:World) (g i j:Nat) (v0 v1:Value):w.grownBy ((w.setCell ⟨g,i,none⟩ v0).setCell ⟨g,j,none⟩ v1) (some g):=(but_put w g i v0).trans (but_put _ g j v1)
theorem c_times40 (v:Value) (n:Nat) (f:Nat→Int) (a b:Int) (K:Nat) (w:World) (h:ZL f w v n) (h0:0<n) (hn:n≤1000) (ha:-1073741824≤a) (ha':a≤1073741824) (hb:-1073741824≤b) (hb':b≤1073741824) (hf:∀ j,nd (f j).natAbs≤K) (hK:K≤1000000) (hz:f n=0):
  Calls Tryz.prog 203 #[v,.int .i64 a,.int .i64 b] w fun e w'=>(∃ g cap,e=.returned (.slice (some ⟨g,0,none⟩) ((n+1:Nat)) cap)∧w.heap.size≤g∧ZRow (lin a b f) w' g (n+1) (n+1))∧Below w.heap.size w w':=by
 obtain⟨g1,o1,l1,rfl,hg1,r1⟩:=h.resolve_left (fun h=>by omega)
 have HR:=Kh r1
 have HF:=Kh hf
 have HZ0:=Kh hz
 have HNA:=Kh (nd64 ha ha')
 have HNB:=Kh (nd64 hb hb')
 have HZA:=Kh (fun w1=>c_Z a w1 (by omega) (by omega))
 have HZB:=Kh (fun w1=>c_Z b w1 (by omega) (by omega))
 obtain⟨N,hN⟩:∃ N,n+1=N:=⟨_,rfl⟩
 have hNi:(n:Int)+1=(N:Nat):=by omega
 have hmk:=makeI N (by omega)
 rw[hN]
 clear h r1 hf ha ha' hb hb' hz
 go_enter Tryz.func203,Tryz.ntmps203
 go_wp2_with fail
 have hrow:=World.rowIs_made w (.int .i64 0) N 3
 obtain⟨wn,hwn⟩:∃ wn,w.alloc (.cells (madeCells #[.int .i64 0] N) 3)=wn:=⟨_,rfl⟩
 rw[hwn]at hrow ⊢
 have hbn:Below w.heap.size w wn:=hwn▸(Below.refl _ _).alloc (Nat.le_refl _) _
 have HBN:=Kh hbn
 have HZS:=Kh (c_Zs w.heap.size N N (fun _=>0) wn hrow.lt (fun j hj=>hrow.cell hj) (fun _ _=>by omega) (by omega))
 clear hrow hbn hwn
 refine HZS.out.mono ?_
 rintro e w2 ⟨⟨v2,rfl,ho⟩,hb2⟩
 obtain⟨g,cap,rfl,hgB,hro⟩:=ho.row.resolve_left (fun h=>by omega)
 have HBW2:=bt HBN hb2
 have hgw:w.heap.size≤g:=Nat.le_trans HBN.out.size hgB
 have HR2:=Kh (fun j (hj:j<n)=>ZE.keep (HR.out j hj) HBW2.out)
 have HST:=Kh hro.sts
 have HRO:=Kh (hro.congr (f':=tm a b f 0) (fun j _=>(tm_zero a b f j).symm))
 have hg1l:g1<g:=by omega
 clear hb2 ho HR HZS HBN hgB hro
 go_wp2
 go_loopw [8] (fun i wr=>∃ k:Nat,k≤n∧i=.int .i64 k∧ZRow (tm a b f k) wr g N N∧w2.grownBy wr (some g)) (fun i _=>n - (intOf i).toNat)
 case atStart=>exact⟨0,Nat.zero_le _,rfl,HRO.out,but_below g (Below.refl _ _)⟩
 case round=>
  obtain⟨k,hk,rfl,hrow,hbu⟩:=hrel
  have HROW:=Kh hrow
  have HBU:=Kh hbu
  have HBW:=Kh (below_but HBW2.out hbu HBW2.out.size hgw)
  by_cases hlt:k<n
  ·obtain⟨s',p',i',c',a0,a1,hx⟩:=(HR2.out k hlt).but HST.out hbu (by omega)
   have HXE:=Kh hx
   obtain⟨s5,p5,n5,c5,e0,e1,hy⟩:=hrow.val k (by omega)
   have HYE:=Kh hy
   have HZC:=HZB
   have hki:(k:Int)<(n:Int):=by omega
   have hkN:(k:Int)<(N:Int):=by omega
   have hra:=hrow
   clear hrow hbu hx hy
   go_upto_region 5 with(fail)
   go_cut []from 20 to 34 (fun wd=>ZRow (tm5 a b f k) wd g N N∧w2.grownBy wd (some g))
   case first=>
    refine rgB (fun W=>W.cell? ⟨g1,o1+k*2,none⟩=some (.bool s')∧W.cell? ⟨g1,o1+k*2+1,none⟩=some (.slice p' i' c')∧W.cell? ⟨g,k*2,none⟩=some (.bool s5)∧W.frozen? ⟨g,k*2,none⟩=false∧W.cell? ⟨g,k*2+1,none⟩=some (.slice p5 n5 c5)∧W.frozen? ⟨g,k*2+1,none⟩=false) (fun W hb=>⟨cnx hb a0,cnx hb a1,cnx hb e0,frozen_keep hb (by rw[e0];rfl) (hra.free _ (by omega)),cnx hb e1,frozen_keep hb (by rw[e1];rfl) (hra.free _ (by omega))⟩) (fun HSE hHeld0=>?_)
    clear a0 a1 e0 e1 hra
    refine tkE 0 ?_;refine tkE 1 ?_;refine tkE 2 ?_;refine tkE 3 ?_;refine tkE 4 ?_;refine tkE 5 ?_;refine tkE 6 ?_;refine tkE 7 ?_;refine tkE 8 ?_;refine tkE 9 ?_;refine tkE 10 ?_
    refine stE 11 rfl (fun K hK=>?_)
    focus(go_simp;refine(HZC.out _).mono ?_;rintro e w2 ⟨⟨s2,p2,n2,c2,rfl,hz2⟩,hb2⟩;have HB2:=Kh ((Below.refl _ wr).drew.trans hb2:Below wr.heap.size wr w2);have HZ2:=Kh hz2;clear hz2 hb2;(first|with_reducible refine hK.out _ _ ?_ (fun hHeld1=>?_) |(go_wp2_with fail;with_reducible refine hK.out _ _ ?_ (fun hHeld1=>?_))))
    focus((try dsimp only);exact HSE.out _ HB2.out)
    focus(clear hK K;(try simp only[Act.put,lsa,lsz,lss]))
    refine stE 12 rfl (fun K hK=>?_)
    focus(go_simp;refine(c_rMul s' p' i' c' (f k) s2 p2 n2 c2 b _ (HXE.out.keep HB2.out).raw HZ2.out.raw (by rw[← HXE.out.2.1];have:=HF.out k;omega) (by rw[← HZ2.out.2.1];have:=HNB.out;omega)).mono ?_;rintro e w3 ⟨⟨s3,p3,n3,c3,rfl,hz3⟩,hb3⟩;have HB3:=bt HB2 hb3;have HZ3:=Kh hz3;clear hz3 hb3;(first|with_reducible refine hK.out _ _ ?_ (fun hHeld2=>?_) |(go_wp2_with fail;with_reducible refine hK.out _ _ ?_ (fun hHeld2=>?_))))
    focus((try dsimp only);exact HSE.out _ HB3.out)
    focus(clear hK K;(try simp only[Act.put,lsa,lsz,lss]))
    refine stE 13 rfl (fun K hK=>?_)
    focus(go_simp;refine(c_rAdd s5 p5 n5 c5 (tm a b f k k) s3 p3 n3 c3 (f k*b) _ (HYE.out.keep HB3.out).raw HZ3.out.raw (by rw[← HYE.out.2.1];have:=tm_size HF.out HNA.out HNB.out k k;omega) (by rw[← HZ3.out.2.1];have:=nd_mul1 (HF.out k) (HNB.out);omega)).mono ?_;rintro e w4 ⟨⟨s6,p6,n6,c6,rfl,hz6⟩,hb6⟩;have hbe:Below wr.heap.size wr w4:=HB3.out.trans (hb6.mono HB3.out.size);have HQA3:=Kh (ZRow.set (k':=N) (HROW.out.keep hbe) k (by omega) (tm5 a b f k) (fun j hj hne=>And.intro hj (tm5_far hne)) (show Zs w4 s6 p6 n6 c6 (tm5 a b f k k)by rw[tm5_at];exact hz6));have HGR:=Kh (HBU.out.trans (but_below g hbe));have HB4:=Kh hbe;clear hz6 hbe hb6;(first|with_reducible refine hK.out _ _ ?_ (fun hHeld3=>?_) |(go_wp2_with fail;with_reducible refine hK.out _ _ ?_ (fun hHeld3=>?_))))
    focus((try dsimp only);exact HSE.out _ HB4.out)
    focus(clear hK K;(try simp only[Act.put,lsa,lsz,lss]))
    refine tkE 14 ?_
    refine laE 15 rfl (fun K hK=>?_)
    go_simp
    refine hK.out _ _ ?_
    clear hK K
    (try simp only[Act.put,lsa,lsz,lss])
    all_goals go_wp2
    all_goals go_meet
    all_goals exact⟨HQA3.out,HGR.out.trans (but_put2 _ _ _ _ _ _)⟩
   case rest=>
    obtain⟨hrow,hbu⟩:=hcut
    clear HROW HBU HBW HXE HYE HZC a0 a1 e0 e1 hra
    obtain⟨wr,rfl⟩:∃ wr:World,wr=wc:=⟨_,rfl⟩
    have HROW:=Kh hrow
    have HBU:=Kh hbu
    have HBW:=Kh (below_but HBW2.out hbu HBW2.out.size hgw)
    obtain⟨s',p',i',c',a0,a1,hx⟩:=(HR2.out k hlt).but HST.out hbu (by omega)
    have HXE:=Kh hx
    obtain⟨k1,hk1⟩:∃ k1,k+1=k1:=⟨_,rfl⟩
    obtain⟨s5,p5,n5,c5,e0,e1,hy⟩:=hrow.val k1 (by omega)
    have HYE:=Kh hy
    have HZC:=HZA
    have hk1n:k1<N:=by omega
    have hki1:(k1:Int)<(N:Int):=by omega
    have hk1i:(k:Int)+1=(k1:Nat):=by omega
    have hkw:IntKind.i64.wrap (k1:Int)=(k1:Nat):=IntWalk.i64_in _ (by omega)
    have HK1:=Kh hk1
    have hra:=hrow
    clear hrow hbu hx hy hk1
    go_upto_region 6 with(fail)
    refine rgB (fun W=>W.cell? ⟨g1,o1+k*2,none⟩=some (.bool s')∧W.cell? ⟨g1,o1+k*2+1,none⟩=some (.slice p' i' c')∧W.cell? ⟨g,k1*2,none⟩=some (.bool s5)∧W.frozen? ⟨g,k1*2,none⟩=false∧W.cell? ⟨g,k1*2+1,none⟩=some (.slice p5 n5 c5)∧W.frozen? ⟨g,k1*2+1,none⟩=false) (fun W hb=>⟨cnx hb a0,cnx hb a1,cnx hb e0,frozen_keep hb (by rw[e0];rfl) (hra.free _ (by omega)),cnx hb e1,frozen_keep hb (by rw[e1];rfl) (hra.free _ (by omega))⟩) (fun HSE hHeld0=>?_)
    clear a0 a1 e0 e1 hra
    refine tkE 0 ?_;refine tkE 1 ?_;refine tkE 2 ?_;refine tkE 3 ?_;refine tkE 4 ?_;refine tkE 5 ?_;refine tkE 6 ?_;refine tkE 7 ?_;refine tkE 8 ?_;refine tkE 9 ?_;refine tkE 10 ?_;refine tkE 11 ?_;refine tkE 12 ?_
    refine stE 13 rfl (fun K hK=>?_)
    focus(go_simp;refine(HZC.out _).mono ?_;rintro e w2 ⟨⟨s2,p2,n2,c2,rfl,hz2⟩,hb2⟩;have HB2:=Kh ((Below.refl _ wr).drew.trans hb2:Below wr.heap.size wr w2);have HZ2:=Kh hz2;clear hz2 hb2;(first|with_reducible refine hK.out _ _ ?_ (fun hHeld1=>?_) |(go_wp2_with fail;with_reducible refine hK.out _ _ ?_ (fun hHeld1=>?_))))
    focus((try dsimp only);exact HSE.out _ HB2.out)
    focus(clear hK K;(try simp only[Act.put,lsa,lsz,lss]))
    refine stE 14 rfl (fun K hK=>?_)
    focus(go_simp;refine(c_rMul s' p' i' c' (f k) s2 p2 n2 c2 a _ (HXE.out.keep HB2.out).raw HZ2.out.raw (by rw[← HXE.out.2.1];have:=HF.out k;omega) (by rw[← HZ2.out.2.1];have:=HNA.out;omega)).mono ?_;rintro e w3 ⟨⟨s3,p3,n3,c3,rfl,hz3⟩,hb3⟩;have HB3:=bt HB2 hb3;have HZ3:=Kh hz3;clear hz3 hb3;(first|with_reducible refine hK.out _ _ ?_ (fun hHeld2=>?_) |(go_wp2_with fail;with_reducible refine hK.out _ _ ?_ (fun hHeld2=>?_))))
    focus((try dsimp only);exact HSE.out _ HB3.out)
    focus(clear hK K;(try simp only[Act.put,lsa,lsz,lss]))
    refine stE 15 rfl (fun K hK=>?_)
    focus(go_simp;refine(c_rAdd s5 p5 n5 c5 (tm5 a b f k k1) s3 p3 n3 c3 (f k*a) _ (HYE.out.keep HB3.out).raw HZ3.out.raw (by rw[← HYE.out.2.1];have:=tm5_size HF.out HNA.out HNB.out k k1;omega) (by rw[← HZ3.out.2.1];have:=nd_mul1 (HF.out k) (HNA.out);omega)).mono ?_;rintro e w4 ⟨⟨s6,p6,n6,c6,rfl,hz6⟩,hb6⟩;have hbe:Below wr.heap.size wr w4:=HB3.out.trans (hb6.mono HB3.out.size);have HQA3:=Kh (ZRow.set (k':=N) (HROW.out.keep hbe) k1 (by omega) (tm a b f (k+1)) (fun j hj hne=>And.intro hj (tm_far (by rw[HK1.out];exact hne))) (show Zs w4 s6 p6 n6 c6 (tm a b f (k+1) k1)by rw[← HK1.out,tm_at,HK1.out];exact hz6));have HGR:=Kh (HBU.out.trans (but_below g hbe));have HB4:=Kh hbe;clear hz6 hbe hb6;(first|with_reducible refine hK.out _ _ ?_ (fun hHeld3=>?_) |(go_wp2_with fail;with_reducible refine hK.out _ _ ?_ (fun hHeld3=>?_))))
    focus((try dsimp only);exact HSE.out _ HB4.out)
    focus(clear hK K;(try simp only[Act.put,lsa,lsz,lss]))
    refine tkE 16 ?_
    refine laE 17 rfl (fun K hK=>?_)
    go_simp
    refine hK.out _ _ ?_
    clear hK K
    (try simp only[Act.put,lsa,lsz,lss])
    all_goals go_wp2
    all_goals go_roundw
    all_goals first
     | exact⟨k+1,by omega,by go_num,HQA3.out,HGR.out.trans (but_put2 _ _ _ _ _ _)⟩
     |(simp[intOf];omega)
  ·obtain rfl:n=k:=by omega
   have HRN:=Kh (hrow.congr (f':=lin a b f) (fun j hj=>tm_all (by omega) HZ0.out))
   clear hrow hbu HROW
   go_wp2
   go_ret
   exact⟨⟨g,cap,rfl,hgw,HRN.out⟩,HBW.out⟩
end Go.Proofs.YthikonjlgljikaaGreatDoor
