/- Contracts of halfplaneref02: Normal, Mul. -/
import Derived.Test.YtijgdhijdfgpfaaGreatDoorT22
set_option maxRecDepth 100000
set_option maxHeartbeats 8000000
namespace Go.Proofs.YtijgdhijdfgpfaaGreatDoor
open Go.RowKit
theorem c_sNormal (s:Bool) (p:Option Addr) (n c:Nat) (x:Int) (t:Bool) (q:Option Addr) (m d:Nat) (y:Int) (w:World) (h:Zr w s p n c x) (h':Zr w t q m d y) (hn:n≤4398046511000) (hm:m≤4398046511000):
  Calls Tryz.prog 105 #[.agg #[.bool s,.slice p n c,.bool t,.slice q m d]] w fun e w'=>RetQ w' e (Rat.divInt x y)∧Below w.heap.size w w':=by
 have HC:=Kh (fun w1 (hb:Below w.heap.size w w1)=>c_sOver s p n c x t q m d y w1 (h.keep hb) (h'.keep hb) hn hm)
 clear h h'
 go_enter Tryz.func105,Tryz.ntmps105
 go_wp2_with fail
 obtain⟨w0,hw0,X0,X1,hb0⟩:=bx2 w #[.bool s,.slice p n c,.bool t,.slice q m d] 67 #[.bool false,.slice none 0 0,.bool false,.slice none 0 0] 67
 rw[hw0]
 have HX1:=Kh X1
 have HB0:=Kh hb0
 clear X0 X1 hb0 hw0
 refine(HC.out _ HB0.out).mono ?_
 rintro e w2 ⟨⟨s2,p2,n2,e2,t2,q2,m2,d2,rfl,hq2⟩,hb2⟩
 have HQ:=Kh hq2
 have HR:=Kh (bk HX1 hb2)
 have HB:=bt HB0 hb2
 clear hq2 hb2 HX1 HB0 HC
 have r0:=HR.out.at_ 0 rfl
 have r1:=HR.out.at_ 1 rfl
 have r2:=HR.out.at_ 2 rfl
 have r3:=HR.out.at_ 3 rfl
 have f0:=HR.out.free_ 0
 have f1:=HR.out.free_ 1
 have f2:=HR.out.free_ 2
 have f3:=HR.out.free_ 3
 obtain⟨w9,hw9⟩:∃ w9,(((w2.setCell ⟨w.heap.size+1,0,none⟩ (.bool s2)).setCell ⟨w.heap.size+1,1,none⟩ (.slice p2 n2 e2)).setCell ⟨w.heap.size+1,2,none⟩ (.bool t2)).setCell ⟨w.heap.size+1,3,none⟩ (.slice q2 m2 d2)=w9:=⟨_,rfl⟩
 obtain⟨E0,E1,E2,E3,hq9⟩:=rat_put HR.out HQ.out hw9
 have hb9:Below w.heap.size w w9:=by rw[← hw9];exact below_putR HB.out (by omega) _ _ _ _
 have HW9:=Kh hw9
 have HE9:=Kh (And.intro E0 (And.intro E1 (And.intro E2 E3)))
 have HQ9:=Kh hq9
 have HB9:=Kh hb9
 clear E0 E1 E2 E3 hq9 hb9 hw9 HQ HB HR
 go_wp2
 try rw[HW9.out]
 obtain⟨E0,E1,E2,E3⟩:=HE9.out
 try simp only[Exit.inBlock,Exit.then]
 refine bodyPost_ret (by simp[results,Tryz.results105,go_sem,E0,E1,E2,E3];try rfl) rfl ?_
 exact⟨⟨s2,p2,n2,e2,t2,q2,m2,d2,rfl,HQ9.out⟩,HB9.out⟩
theorem c_sMul (s:Bool) (p:Option Addr) (n c:Nat) (x:Int) (t:Bool) (q:Option Addr) (m d:Nat) (y:Int) (s':Bool) (p':Option Addr) (n' c':Nat) (x':Int) (t':Bool) (q':Option Addr) (m' d':Nat) (y':Int) (w:World) (h1:Zr w s p n c x) (h2:Zr w t q m d y) (h3:Zr w s' p' n' c' x') (h4:Zr w t' q' m' d' y') (hn:n≤2199023255500) (hm:m≤2199023255500) (hn':n'≤2199023255500) (hm':m'≤2199023255500):
  Calls Tryz.prog 70 #[.agg #[.bool s,.slice p n c,.bool t,.slice q m d],.agg #[.bool s',.slice p' n' c',.bool t',.slice q' m' d']] w fun e w'=>RetQ w' e (Rat.divInt x y*Rat.divInt x' y')∧Below w.heap.size w w':=by
 have HV:=Kh (Rat.divInt_mul_divInt x x' (d₁:=y) (d₂:=y'))
 have HS1:=Kh (show nd (x*x').natAbs≤4398046511000 by rw[Int.natAbs_mul];have:=nd_mul x.natAbs x'.natAbs;have:=h1.size;have:=h3.size;omega)
 have HS2:=Kh (show nd (y*y').natAbs≤4398046511000 by rw[Int.natAbs_mul];have:=nd_mul y.natAbs y'.natAbs;have:=h2.size;have:=h4.size;omega)
 have HC1:=Kh (fun w1 (hb:Below w.heap.size w w1)=>c_rMul s p n c x s' p' n' c' x' w1 (h1.keep hb) (h3.keep hb) (by omega) (by omega))
 have HC2:=Kh (fun w1 (hb:Below w.heap.size w w1)=>c_rMul t q m d y t' q' m' d' y' w1 (h2.keep hb) (h4.keep hb) (by omega) (by omega))
 clear h1 h2 h3 h4
 go_enter Tryz.func70,Tryz.ntmps70
 go_upto_region 1 with(fail)
 obtain⟨w0,hw0,X0,X1,X2,hb0⟩:=bx3 w #[.bool s,.slice p n c,.bool t,.slice q m d] 67 #[.bool s',.slice p' n' c',.bool t',.slice q' m' d'] 67 #[.bool false,.slice none 0 0,.bool false,.slice none 0 0] 67
 rw[hw0]
 have hs0:w.heap.size≤w0.heap.size:=hb0.size
 clear hw0
 have M1:True:=trivial
 have T2:=Sts.of X2 (by intro v hv;simp at hv;rcases hv with rfl|rfl|rfl|rfl <;> first|exact NotInt.bool _|exact NotInt.slice _ _ _)
 have hS0:=S8_4_next (Below.refl _ w0).drew ⟨X0.c0,X0.c1,X0.c2,X0.c3,X1.c0,X1.c1,X1.c2,X1.c3,X2.so 0,X2.free_ 0,T2,X2.so 1,X2.free_ 1,T2,X2.so 2,X2.free_ 2,T2,X2.so 3,X2.free_ 3,T2,hb0,hs0⟩
 clear X0 X1 X2
 go_region_held3 (fun w1=>w1.cell? ⟨w.heap.size,0,none⟩=some (.bool s)∧w1.cell? ⟨w.heap.size,1,none⟩=some (.slice p n c)∧w1.cell? ⟨w.heap.size,2,none⟩=some (.bool t)∧w1.cell? ⟨w.heap.size,3,none⟩=some (.slice q m d)∧w1.cell? ⟨w.heap.size+1,0,none⟩=some (.bool s')∧w1.cell? ⟨w.heap.size+1,1,none⟩=some (.slice p' n' c')∧w1.cell? ⟨w.heap.size+1,2,none⟩=some (.bool t')∧w1.cell? ⟨w.heap.size+1,3,none⟩=some (.slice q' m' d')∧w1.cell? ⟨w.heap.size+1+1,0,none⟩=some (cellOf w1 ⟨w.heap.size+1+1,0,none⟩)∧w1.frozen? ⟨w.heap.size+1+1,0,none⟩=false∧Sts w1 (w.heap.size+1+1)∧w1.cell? ⟨w.heap.size+1+1,1,none⟩=some (cellOf w1 ⟨w.heap.size+1+1,1,none⟩)∧w1.frozen? ⟨w.heap.size+1+1,1,none⟩=false∧Sts w1 (w.heap.size+1+1)∧w1.cell? ⟨w.heap.size+1+1,2,none⟩=some (cellOf w1 ⟨w.heap.size+1+1,2,none⟩)∧w1.frozen? ⟨w.heap.size+1+1,2,none⟩=false∧Sts w1 (w.heap.size+1+1)∧w1.cell? ⟨w.heap.size+1+1,3,none⟩=some (cellOf w1 ⟨w.heap.size+1+1,3,none⟩)∧w1.frozen? ⟨w.heap.size+1+1,3,none⟩=false∧Sts w1 (w.heap.size+1+1)∧Below w.heap.size w w1∧w.heap.size≤w1.heap.size)
  (first|with_reducible exact hS0 |(refine S8_4_next (by with_reducible assumption) ?_;assumption) |(refine S8_4_put ?_ ?_ ?_ ?_ ?_ ?_ ?_ ?_ ?_ ?_ ?_ ?_ ?_ ?_ ?_ ?_ ?_ ?_ ?_ ?_ ?_ ?_ ?_ ?_ ?_ ?_ ?_ ?_ ?_ ?_ ?_ ?_ ?_ ?_ ?_ ?_ ?_ ?_ ?_ ?_ ?_ <;> first|assumption|exact NotInt.bool _|exact NotInt.slice _ _ _ |(dsimp only;omega) |(simp;done)))
  (first
   |(go_at_call 108;clear M1;refine(HC1.out _ (S8_4_below (by with_reducible assumption))).mono ?_;rintro e w2 ⟨⟨s2,p2,n2,e2,rfl,hz2⟩,hb2⟩;have HZ2:=Kh hz2;clear hz2)
   |(go_at_call 108;refine(HC2.out _ (S8_4_below (by with_reducible assumption))).mono ?_;rintro e w3 ⟨⟨s3,p3,n3,e3,rfl,hz3⟩,hb3⟩;have HOV:=Kh (c_sOver s2 p2 n2 e2 (x*x') s3 p3 n3 e3 (y*y') w3 (HZ2.out.keep hb3).raw hz3.raw (by rw[← HZ2.out.2.1];exact HS1.out) (by rw[← hz3.2.1];exact HS2.out));clear hz3 hb2 HZ2)
   |(go_at_call 106;refine HOV.out.mono ?_;rintro e w4 ⟨⟨s4,p4,n4,e4,t4,q4,m4,d4,rfl,hq4⟩,hb4⟩;clear hb3;obtain⟨⟨hR0,hT⟩,⟨hR1,_⟩,⟨hR2,_⟩,⟨hR3,_⟩⟩:=S8_4_end hb4 (by with_reducible assumption);have hq5:=Kh (hq4.put4 hT (.bool s4) (.slice p4 n4 e4) (.bool t4) (.slice q4 m4 d4) (NotInt.bool _) (NotInt.slice _ _ _) (NotInt.bool _));clear hq4 hT))
 go_wp2
 try simp only[Exit.inBlock,Exit.then]
 refine bodyPost_ret (by simp[results,Tryz.results70,go_sem,hR0,hR1,hR2,hR3];try rfl) rfl ?_
 exact⟨⟨s4,p4,n4,e4,t4,q4,m4,d4,rfl,HV.out▸hq5.out⟩,S8_4_below (by assumption)⟩
def TwoQ (w:World) (A B:Nat) (x y:Rat):Prop:=∃ s1 p1 n1 c1 t1 q1 m1 d1 s2 p2 n2 c2 t2 q2 m2 d2,Blk w A 67 #[.bool s1,.slice p1 n1 c1,.bool t1,.slice q1 m1 d1]∧Blk w B 67 #[.bool s2,.slice p2 n2 c2,.bool t2,.slice q2 m2 d2]∧Qs w s1 p1 n1 c1 t1 q1 m1 d1 x∧Qs w s2 p2 n2 c2 t2 q2 m2 d2 y
theorem Sts.qbox {w:World} {A:Nat} {s1 t1:Bool} {p1 q1:Option Addr} {n1 c1 m1 d1:Nat} (h:Blk w A 67 #[.bool s1,.slice p1 n1 c1,.bool t1,.slice q1 m1 d1]):Sts w A:=
 Sts.of h (by intro v hv;simp at hv;rcases hv with rfl|rfl|rfl|rfl <;> first|exact NotInt.bool _|exact NotInt.slice _ _ _)
theorem qfar {w:World} {A R:Nat} (hne:A≠R) {t:TypeId} {cs:Array Value} (h:Blk w A t cs) (v0 v1 v2 v3:Value):Blk ((((w.setCell ⟨R,0,none⟩ v0).setCell ⟨R,1,none⟩ v1).setCell ⟨R,2,none⟩ v2).setCell ⟨R,3,none⟩ v3) A t cs:=
 (((h.far_ (p:=⟨R,0,none⟩) hne v0).far_ (p:=⟨R,1,none⟩) hne v1).far_ (p:=⟨R,2,none⟩) hne v2).far_ (p:=⟨R,3,none⟩) hne v3
theorem qone {w:World} {A:Nat} {s1 t1:Bool} {p1 q1:Option Addr} {n1 c1 m1 d1:Nat} {s2 t2:Bool} {p2 q2:Option Addr} {n2 c2 m2 d2:Nat} (h:Blk w A 67 #[.bool s2,.slice p2 n2 c2,.bool t2,.slice q2 m2 d2]):Blk ((((w.setCell ⟨A,0,none⟩ (.bool s1)).setCell ⟨A,1,none⟩ (.slice p1 n1 c1)).setCell ⟨A,2,none⟩ (.bool t1)).setCell ⟨A,3,none⟩ (.slice q1 m1 d1)) A 67 #[.bool s1,.slice p1 n1 c1,.bool t1,.slice q1 m1 d1]:=
 (((h.set_ 0 (.bool s1)).set_ 1 (.slice p1 n1 c1)).set_ 2 (.bool t1)).set_ 3 (.slice q1 m1 d1)
theorem qkeep {w:World} {R:Nat} (h0:Sts w R) {s1 t1:Bool} {p1 q1:Option Addr} {n1 c1 m1 d1:Nat} {s2 t2:Bool} {p2 q2:Option Addr} {n2 c2 m2 d2:Nat} {r:Rat} (h:Qs w s2 p2 n2 c2 t2 q2 m2 d2 r):Qs ((((w.setCell ⟨R,0,none⟩ (.bool s1)).setCell ⟨R,1,none⟩ (.slice p1 n1 c1)).setCell ⟨R,2,none⟩ (.bool t1)).setCell ⟨R,3,none⟩ (.slice q1 m1 d1)) s2 p2 n2 c2 t2 q2 m2 d2 r:=h.put4 h0 _ _ _ _ (NotInt.bool _) (NotInt.slice _ _ _) (NotInt.bool _)
abbrev QB (B:Nat) (w:World) (g:Nat):Prop:=B≤g∧w.cell? ⟨g,0,none⟩=some (.bool false)∧w.cell? ⟨g,1,none⟩=some (.slice none 0 0)∧w.cell? ⟨g,2,none⟩=some (.bool false)∧w.cell? ⟨g,3,none⟩=some (.slice none 0 0)∧w.frozen? ⟨g,0,none⟩=false∧w.frozen? ⟨g,1,none⟩=false∧w.frozen? ⟨g,2,none⟩=false∧w.frozen? ⟨g,3,none⟩=false∧Blk w g 67 #[.bool false,.slice none 0 0,.bool false,.slice none 0 0]
theorem qfr_of {w:World} {B g:Nat} (hB:B≤g) (h:Blk w g 67 #[.bool false,.slice none 0 0,.bool false,.slice none 0 0]):QB B w g:=⟨hB,h.at_ 0 rfl,h.at_ 1 rfl,h.at_ 2 rfl,h.at_ 3 rfl,h.free_ 0,h.free_ 1,h.free_ 2,h.free_ 3,h⟩
theorem qfr1 {W w':World} {B g:Nat} (hg:W.heap.size=g) (hB:B≤g) (hb:Below (W.alloc (.cells #[.bool false,.slice none 0 0,.bool false,.slice none 0 0] 67)).heap.size (W.alloc (.cells #[.bool false,.slice none 0 0,.bool false,.slice none 0 0] 67)) w'):QB B w' g:=by
 subst hg
 exact qfr_of hB ((Blk.new W 67 #[.bool false,.slice none 0 0,.bool false,.slice none 0 0]).below_ hb (by simp))
theorem qfr2 {W w':World} {B g:Nat} (hg:W.heap.size=g) (hB:B≤g) (hb:Below ((W.alloc (.cells #[.bool false,.slice none 0 0,.bool false,.slice none 0 0] 67)).alloc (.cells #[.bool false,.slice none 0 0,.bool false,.slice none 0 0] 67)).heap.size ((W.alloc (.cells #[.bool false,.slice none 0 0,.bool false,.slice none 0 0] 67)).alloc (.cells #[.bool false,.slice none 0 0,.bool false,.slice none 0 0] 67)) w'):QB B w' g:=by
 subst hg
 exact qfr_of hB (((Blk.new W 67 #[.bool false,.slice none 0 0,.bool false,.slice none 0 0]).alloc_ _).below_ hb (by simp;omega))
theorem qfrn0 {w w':World} {B g:Nat} (h:QB B w g) (hb:Below w.heap.size w w'):QB B w' g:=qfr_of h.1 (h.2.2.2.2.2.2.2.2.2.below_ hb h.2.2.2.2.2.2.2.2.2.lt)
theorem qfrn1 {w w':World} {o:Obj} {B g:Nat} (h:QB B w g) (hb:Below (w.alloc o).heap.size (w.alloc o) w'):QB B w' g:=qfr_of h.1 ((h.2.2.2.2.2.2.2.2.2.alloc_ o).below_ hb (h.2.2.2.2.2.2.2.2.2.alloc_ o).lt)
theorem qfr_al {w:World} {B g:Nat} (h:QB B w g) (o:Obj):QB B (w.alloc o) g:=qfr_of h.1 (h.2.2.2.2.2.2.2.2.2.alloc_ _)
theorem qfr_new {w:World} {B:Nat} (hB:B≤w.heap.size):(QB B ((w.alloc (.cells #[.bool false,.slice none 0 0,.bool false,.slice none 0 0] 67)).alloc (.cells #[.bool false,.slice none 0 0,.bool false,.slice none 0 0] 67)) w.heap.size)∧(B≤(w.heap.size+1)∧((w.alloc (.cells #[.bool false,.slice none 0 0,.bool false,.slice none 0 0] 67)).alloc (.cells #[.bool false,.slice none 0 0,.bool false,.slice none 0 0] 67)).cell? ⟨(w.heap.size+1),0,none⟩=some (.bool false)∧((w.alloc (.cells #[.bool false,.slice none 0 0,.bool false,.slice none 0 0] 67)).alloc (.cells #[.bool false,.slice none 0 0,.bool false,.slice none 0 0] 67)).cell? ⟨(w.heap.size+1),1,none⟩=some (.slice none 0 0)∧((w.alloc (.cells #[.bool false,.slice none 0 0,.bool false,.slice none 0 0] 67)).alloc (.cells #[.bool false,.slice none 0 0,.bool false,.slice none 0 0] 67)).cell? ⟨(w.heap.size+1),2,none⟩=some (.bool false)∧((w.alloc (.cells #[.bool false,.slice none 0 0,.bool false,.slice none 0 0] 67)).alloc (.cells #[.bool false,.slice none 0 0,.bool false,.slice none 0 0] 67)).cell? ⟨(w.heap.size+1),3,none⟩=some (.slice none 0 0)∧((w.alloc (.cells #[.bool false,.slice none 0 0,.bool false,.slice none 0 0] 67)).alloc (.cells #[.bool false,.slice none 0 0,.bool false,.slice none 0 0] 67)).frozen? ⟨(w.heap.size+1),0,none⟩=false∧((w.alloc (.cells #[.bool false,.slice none 0 0,.bool false,.slice none 0 0] 67)).alloc (.cells #[.bool false,.slice none 0 0,.bool false,.slice none 0 0] 67)).frozen? ⟨(w.heap.size+1),1,none⟩=false∧((w.alloc (.cells #[.bool false,.slice none 0 0,.bool false,.slice none 0 0] 67)).alloc (.cells #[.bool false,.slice none 0 0,.bool false,.slice none 0 0] 67)).frozen? ⟨(w.heap.size+1),2,none⟩=false∧((w.alloc (.cells #[.bool false,.slice none 0 0,.bool false,.slice none 0 0] 67)).alloc (.cells #[.bool false,.slice none 0 0,.bool false,.slice none 0 0] 67)).frozen? ⟨(w.heap.size+1),3,none⟩=false∧Blk ((w.alloc (.cells #[.bool false,.slice none 0 0,.bool false,.slice none 0 0] 67)).alloc (.cells #[.bool false,.slice none 0 0,.bool false,.slice none 0 0] 67)) (w.heap.size+1) 67 #[.bool false,.slice none 0 0,.bool false,.slice none 0 0]):=by
 have h:=Blk.new (w.alloc (.cells #[.bool false,.slice none 0 0,.bool false,.slice none 0 0] 67)) 67 #[.bool false,.slice none 0 0,.bool false,.slice none 0 0]
 rw[World.size_alloc]at h
 exact⟨qfr_of hB ((Blk.new w 67 #[.bool false,.slice none 0 0,.bool false,.slice none 0 0]).alloc_ _),qfr_of (by omega) h⟩
theorem twoq_new12 {w:World} {s1 t1:Bool} {p1 q1:Option Addr} {n1 c1 m1 d1:Nat} {s2 t2:Bool} {p2 q2:Option Addr} {n2 c2 m2 d2:Nat} {x y:Rat} (h:Qs w s1 p1 n1 c1 t1 q1 m1 d1 x∧Qs w s2 p2 n2 c2 t2 q2 m2 d2 y):TwoQ ((w.alloc (.cells #[.bool s1,.slice p1 n1 c1,.bool t1,.slice q1 m1 d1] 67)).alloc (.cells #[.bool s2,.slice p2 n2 c2,.bool t2,.slice q2 m2 d2] 67)) w.heap.size (w.heap.size+1) x y:=by
 obtain⟨X0,X1,_⟩:=box2 w #[.bool s1,.slice p1 n1 c1,.bool t1,.slice q1 m1 d1] 67 #[.bool s2,.slice p2 n2 c2,.bool t2,.slice q2 m2 d2] 67
 have hb:∀ (w:World) (o:Obj),Below w.heap.size w (w.alloc o):=fun w o=>(Below.refl _ _).alloc (Nat.le_refl _) o
 exact⟨_,_,_,_,_,_,_,_,_,_,_,_,_,_,_,_,X0,X1,(h.1.keep (hb _ _)).keep (hb _ _),(h.2.keep (hb _ _)).keep (hb _ _)⟩
theorem TwoQ.symm {w:World} {A B:Nat} {x y:Rat} (h:TwoQ w A B x y):TwoQ w B A y x:=by
 obtain⟨s1,p1,n1,c1,t1,q1,m1,d1,s2,p2,n2,c2,t2,q2,m2,d2,h1,h2,h3,h4⟩:=h
 exact⟨_,_,_,_,_,_,_,_,_,_,_,_,_,_,_,_,h2,h1,h4,h3⟩
theorem twoq_new21 {w:World} {s1 t1:Bool} {p1 q1:Option Addr} {n1 c1 m1 d1:Nat} {s2 t2:Bool} {p2 q2:Option Addr} {n2 c2 m2 d2:Nat} {x y:Rat} (h:Qs w s1 p1 n1 c1 t1 q1 m1 d1 x∧Qs w s2 p2 n2 c2 t2 q2 m2 d2 y):TwoQ ((w.alloc (.cells #[.bool s2,.slice p2 n2 c2,.bool t2,.slice q2 m2 d2] 67)).alloc (.cells #[.bool s1,.slice p1 n1 c1,.bool t1,.slice q1 m1 d1] 67)) (w.heap.size+1) w.heap.size x y:=(twoq_new12 (And.intro h.2 h.1)).symm
theorem twoq_put {w:World} {A B:Nat} {s1 t1:Bool} {p1 q1:Option Addr} {n1 c1 m1 d1:Nat} {s2 t2:Bool} {p2 q2:Option Addr} {n2 c2 m2 d2:Nat} {s3 t3:Bool} {p3 q3:Option Addr} {n3 c3 m3 d3:Nat} {s4 t4:Bool} {p4 q4:Option Addr} {n4 c4 m4 d4:Nat} {x y:Rat} (hne:A≠B) (hA:Blk w A 67 #[.bool s3,.slice p3 n3 c3,.bool t3,.slice q3 m3 d3]) (hB:Blk w B 67 #[.bool s4,.slice p4 n4 c4,.bool t4,.slice q4 m4 d4]) (hx:Qs w s1 p1 n1 c1 t1 q1 m1 d1 x) (hy:Qs w s2 p2 n2 c2 t2 q2 m2 d2 y):TwoQ ((((((((w.setCell ⟨A,0,none⟩ (.bool s1)).setCell ⟨A,1,none⟩ (.slice p1 n1 c1)).setCell ⟨A,2,none⟩ (.bool t1)).setCell ⟨A,3,none⟩ (.slice q1 m1 d1)).setCell ⟨B,0,none⟩ (.bool s2)).setCell ⟨B,1,none⟩ (.slice p2 n2 c2)).setCell ⟨B,2,none⟩ (.bool t2)).setCell ⟨B,3,none⟩ (.slice q2 m2 d2)) A B x y:=by
 have sA:=Sts.qbox hA
 have b1:Blk ((((w.setCell ⟨A,0,none⟩ (.bool s1)).setCell ⟨A,1,none⟩ (.slice p1 n1 c1)).setCell ⟨A,2,none⟩ (.bool t1)).setCell ⟨A,3,none⟩ (.slice q1 m1 d1)) B 67 #[.bool s4,.slice p4 n4 c4,.bool t4,.slice q4 m4 d4]:=qfar (Ne.symm hne) hB _ _ _ _
 have sB:=Sts.qbox b1
 exact⟨_,_,_,_,_,_,_,_,_,_,_,_,_,_,_,_,qfar hne (qone hA) _ _ _ _,qone b1,qkeep sB (qkeep sA hx),qkeep sB (qkeep sA hy)⟩
theorem twoq_half {w:World} {A:Nat} {s1 t1:Bool} {p1 q1:Option Addr} {n1 c1 m1 d1:Nat} {s2 t2:Bool} {p2 q2:Option Addr} {n2 c2 m2 d2:Nat} {x y:Rat} (hA:Blk w A 67 #[.bool false,.slice none 0 0,.bool false,.slice none 0 0]) (h:Qs w s1 p1 n1 c1 t1 q1 m1 d1 x∧Qs w s2 p2 n2 c2 t2 q2 m2 d2 y):
  TwoQ (((((((((w.alloc (.cells #[.bool false,.slice none 0 0,.bool false,.slice none 0 0] 67)).setCell ⟨A,0,none⟩ (.bool s1)).setCell ⟨A,1,none⟩ (.slice p1 n1 c1)).setCell ⟨A,2,none⟩ (.bool t1)).setCell ⟨A,3,none⟩ (.slice q1 m1 d1)).setCell ⟨w.heap.size,0,none⟩ (.bool s2)).setCell ⟨w.heap.size,1,none⟩ (.slice p2 n2 c2)).setCell ⟨w.heap.size,2,none⟩ (.bool t2)).setCell ⟨w.heap.size,3,none⟩ (.slice q2 m2 d2)) A w.heap.size x y:=by
 have hb:Below w.heap.size w (w.alloc (.cells #[.bool false,.slice none 0 0,.bool false,.slice none 0 0] 67)):=(Below.refl _ _).alloc (Nat.le_refl _) _
 exact twoq_put (Nat.ne_of_lt hA.lt) (hA.alloc_ _) (Blk.new w _ _) (h.1.keep hb) (h.2.keep hb)
theorem twoq_top {w:World} {A:Nat} {s1 t1:Bool} {p1 q1:Option Addr} {n1 c1 m1 d1:Nat} {s2 t2:Bool} {p2 q2:Option Addr} {n2 c2 m2 d2:Nat} {x y:Rat} (hA:Blk w A 67 #[.bool false,.slice none 0 0,.bool false,.slice none 0 0]) (h:Qs w s1 p1 n1 c1 t1 q1 m1 d1 x∧Qs w s2 p2 n2 c2 t2 q2 m2 d2 y):
  TwoQ (((((w.alloc (.cells #[.bool s1,.slice p1 n1 c1,.bool t1,.slice q1 m1 d1] 67)).setCell ⟨A,0,none⟩ (.bool s2)).setCell ⟨A,1,none⟩ (.slice p2 n2 c2)).setCell ⟨A,2,none⟩ (.bool t2)).setCell ⟨A,3,none⟩ (.slice q2 m2 d2)) w.heap.size A x y:=by
 have hb:Below w.heap.size w (w.alloc (.cells #[.bool s1,.slice p1 n1 c1,.bool t1,.slice q1 m1 d1] 67)):=(Below.refl _ _).alloc (Nat.le_refl _) _
 have hA':=hA.alloc_ (.cells #[.bool s1,.slice p1 n1 c1,.bool t1,.slice q1 m1 d1] 67)
 have hne:=Nat.ne_of_gt hA.lt
 exact⟨_,_,_,_,_,_,_,_,_,_,_,_,_,_,_,_,qfar hne (Blk.new w _ _) _ _ _ _,qone hA',qkeep (Sts.qbox hA') (h.1.keep hb),qkeep (Sts.qbox hA') (h.2.keep hb)⟩
theorem c_sAdd (s:Bool) (p:Option Addr) (n c:Nat) (t:Bool) (q:Option Addr) (m d:Nat) (x:Rat) (s':Bool) (p':Option Addr) (n' c':Nat) (t':Bool) (q':Option Addr) (m' d':Nat) (y:Rat) (w:World) (h:Qs w s p n c t q m d x) (h':Qs w s' p' n' c' t' q' m' d' y) (hn:hq x≤1099511627770) (hm:hq y≤1099511627770):
  Calls Tryz.prog 69 #[.agg #[.bool s,.slice p n c,.bool t,.slice q m d],.agg #[.bool s',.slice p' n' c',.bool t',.slice q' m' d']] w fun e w'=>RetQ w' e (x+y)∧Below w.heap.size w w':=by
 have HN1:=Kh (fun w1 (hb:Below w.heap.size w w1)=>by
  have h1:=c_sNormal s p n c x.num t q m d x.den w1 (h.1.raw.keep hb) (h.2.raw.keep hb) (by have:=h.sizes;omega) (by have:=h.sizes;omega)
  rw[rat_self]at h1
  exact h1)
 have HN2:=Kh (fun w1 (hb:Below w.heap.size w w1)=>by
  have h1:=c_sNormal s' p' n' c' y.num t' q' m' d' y.den w1 (h'.1.raw.keep hb) (h'.2.raw.keep hb) (by have:=h'.sizes;omega) (by have:=h'.sizes;omega)
  rw[rat_self]at h1
  exact h1)
 have HX:=Kh hn
 have HY:=Kh hm
 clear h h' hn hm
 go_enter Tryz.func69,Tryz.ntmps69
 go_upto_region 1 with(fail)
 obtain⟨wc,hwc,X0,X1,X2,hb0⟩:=bx3 w #[.bool s,.slice p n c,.bool t,.slice q m d] 67 #[.bool s',.slice p' n' c',.bool t',.slice q' m' d'] 67 #[.bool false,.slice none 0 0,.bool false,.slice none 0 0] 67
 rw[hwc]
 have hs0:w.heap.size≤wc.heap.size:=hb0.size
 clear hwc
 have HBC:=Kh hb0
 have HR0:=Kh X2
 have hlt:w.heap.size+1+1<wc.heap.size:=X2.lt
 go_cut [5,6]from 7 to 10 (fun v5 v6 wd=>∃ g5 g6,v5=.pointer (some ⟨g5,0,none⟩)∧v6=.pointer (some ⟨g6,0,none⟩)∧g5≠g6∧wc.heap.size≤g5∧wc.heap.size≤g6∧TwoQ wd g5 g6 x y∧Below wc.heap.size wc wd)
 case first=>
  have hS1:wc.cell? ⟨w.heap.size,0,none⟩=some (.bool s)∧wc.cell? ⟨w.heap.size,1,none⟩=some (.slice p n c)∧wc.cell? ⟨w.heap.size,2,none⟩=some (.bool t)∧wc.cell? ⟨w.heap.size,3,none⟩=some (.slice q m d)∧wc.cell? ⟨w.heap.size+1,0,none⟩=some (.bool s')∧wc.cell? ⟨w.heap.size+1,1,none⟩=some (.slice p' n' c')∧wc.cell? ⟨w.heap.size+1,2,none⟩=some (.bool t')∧wc.cell? ⟨w.heap.size+1,3,none⟩=some (.slice q' m' d')∧Below wc.heap.size wc wc∧wc.heap.size≤wc.heap.size:=⟨X0.at_ 0 rfl,X0.at_ 1 rfl,X0.at_ 2 rfl,X0.at_ 3 rfl,X1.at_ 0 rfl,X1.at_ 1 rfl,X1.at_ 2 rfl,X1.at_ 3 rfl,Below.refl _ _,Nat.le_refl _⟩
  have hS0:wc.drew.cell? ⟨w.heap.size,0,none⟩=some (.bool s)∧wc.drew.cell? ⟨w.heap.size,1,none⟩=some (.slice p n c)∧wc.drew.cell? ⟨w.heap.size,2,none⟩=some (.bool t)∧wc.drew.cell? ⟨w.heap.size,3,none⟩=some (.slice q m d)∧wc.drew.cell? ⟨w.heap.size+1,0,none⟩=some (.bool s')∧wc.drew.cell? ⟨w.heap.size+1,1,none⟩=some (.slice p' n' c')∧wc.drew.cell? ⟨w.heap.size+1,2,none⟩=some (.bool t')∧wc.drew.cell? ⟨w.heap.size+1,3,none⟩=some (.slice q' m' d')∧Below wc.heap.size wc wc.drew∧wc.heap.size≤wc.drew.heap.size:=S8_0_next (Below.refl _ wc).drew hS1
  clear X0 X1
  have M1:True:=trivial
  go_region_held3 (fun w1=>w1.cell? ⟨w.heap.size,0,none⟩=some (.bool s)∧w1.cell? ⟨w.heap.size,1,none⟩=some (.slice p n c)∧w1.cell? ⟨w.heap.size,2,none⟩=some (.bool t)∧w1.cell? ⟨w.heap.size,3,none⟩=some (.slice q m d)∧w1.cell? ⟨w.heap.size+1,0,none⟩=some (.bool s')∧w1.cell? ⟨w.heap.size+1,1,none⟩=some (.slice p' n' c')∧w1.cell? ⟨w.heap.size+1,2,none⟩=some (.bool t')∧w1.cell? ⟨w.heap.size+1,3,none⟩=some (.slice q' m' d')∧Below wc.heap.size wc w1∧wc.heap.size≤w1.heap.size)
   (first|with_reducible exact hS0 |(refine S8_0_next (by with_reducible assumption) ?_;assumption)|exact S8_0_next (by go_grown) hS1)
   (first
    |(go_at_call 105;clear M1;refine(HN1.out _ (HBC.out.trans ((S8_0_below (by with_reducible assumption)).mono HBC.out.size))).mono ?_;rintro e w2 ⟨⟨s2,p2,n2,e2,t2,q2,m2,f2,rfl,hz2⟩,hb2⟩;have HA2:=Kh hz2;have hz2s:wc.heap.size≤w2.heap.size:=Nat.le_trans (S8_0_size (by with_reducible assumption)) (Below.size hb2);have hw2:Below wc.heap.size wc w2:=Below.trans (S8_0_below (by with_reducible assumption)) (Below.mono hb2 (S8_0_size (by with_reducible assumption)));(first|have fa:=qfr2 (B:=wc.heap.size) (W:=wc.drew) (g:=wc.heap.size) rfl (Nat.le_refl _) hb2|have fa:=qfr1 (B:=wc.heap.size) (W:=wc.drew) (g:=wc.heap.size) rfl (Nat.le_refl _) hb2|skip);(try have fb:=qfr1 (B:=wc.heap.size) (W:=wc.drew.alloc (.cells #[.bool false,.slice none 0 0,.bool false,.slice none 0 0] 67)) (g:=wc.heap.size+1) (by simp) (by omega) hb2);clear hz2)
    |(go_at_call 105;refine(HN2.out _ (HBC.out.trans ((S8_0_below (by with_reducible assumption)).mono HBC.out.size))).mono ?_;rintro e w3 ⟨⟨s3,p3,n3,e3,t3,q3,m3,f3,rfl,hz3⟩,hb3⟩;have HA3:=Kh (show Qs w3 s2 p2 n2 e2 t2 q2 m2 f2 x∧Qs w3 s3 p3 n3 e3 t3 q3 m3 f3 y from⟨by first|exact HA2.out.keep hb3|exact(HA2.out.keep ((Below.refl _ _).alloc (Nat.le_refl _) _)).keep hb3|exact((HA2.out.keep ((Below.refl _ _).alloc (Nat.le_refl _) _)).keep ((Below.refl _ _).alloc (Nat.le_refl _) _)).keep hb3,hz3⟩);have hz3s:wc.heap.size≤w3.heap.size:=Nat.le_trans (S8_0_size (by with_reducible assumption)) (Below.size hb3);have hw3:Below wc.heap.size wc w3:=Below.trans (S8_0_below (by with_reducible assumption)) (Below.mono hb3 (S8_0_size (by with_reducible assumption)));(first|have ga:=qfrn0 fa hb3|have ga:=qfrn1 fa hb3|skip);(try have gb:=qfrn0 fb hb3);(first|have gc:=qfr2 (B:=wc.heap.size) (W:=w2) (g:=w2.heap.size) rfl hz2s hb3|have gc:=qfr1 (B:=wc.heap.size) (W:=w2) (g:=w2.heap.size) rfl hz2s hb3|skip);(try have gd:=qfr1 (B:=wc.heap.size) (W:=w2.alloc (.cells #[.bool false,.slice none 0 0,.bool false,.slice none 0 0] 67)) (g:=w2.heap.size+1) (by simp) (by omega) hb3);(try have ha1:=fun o=>qfr_al ga o);(try have hb1:=fun o=>qfr_al gb o);(try have hc1:=fun o=>qfr_al gc o);(try have hd1:=fun o=>qfr_al gd o);have hnn:=qfr_new hz3s;(try have qga:=And.intro (Nat.ne_of_lt ga.2.2.2.2.2.2.2.2.2.lt) (Nat.ne_of_gt ga.2.2.2.2.2.2.2.2.2.lt));(try have qgb:=And.intro (Nat.ne_of_lt gb.2.2.2.2.2.2.2.2.2.lt) (Nat.ne_of_gt gb.2.2.2.2.2.2.2.2.2.lt));(try have qgc:=And.intro (Nat.ne_of_lt gc.2.2.2.2.2.2.2.2.2.lt) (Nat.ne_of_gt gc.2.2.2.2.2.2.2.2.2.lt));(try have qgd:=And.intro (Nat.ne_of_lt gd.2.2.2.2.2.2.2.2.2.lt) (Nat.ne_of_gt gd.2.2.2.2.2.2.2.2.2.lt));(try have qfa:=And.intro (Nat.ne_of_lt fa.2.2.2.2.2.2.2.2.2.lt) (Nat.ne_of_gt fa.2.2.2.2.2.2.2.2.2.lt));(try have qfb:=And.intro (Nat.ne_of_lt fb.2.2.2.2.2.2.2.2.2.lt) (Nat.ne_of_gt fb.2.2.2.2.2.2.2.2.2.lt));(try have hb2s:=Below.size hb2);(try have hb3s:=Below.size hb3);clear hz3 HA2))
  all_goals go_wp2
  all_goals go_meet
  all_goals refine⟨_,_,rfl,rfl,?_,?_,?_,?_,?_⟩
  all_goals first
   |(with_reducible exact twoq_new12 HA3.out)
   |(with_reducible exact twoq_new21 HA3.out)
   |(with_reducible exact twoq_half ga.2.2.2.2.2.2.2.2.2 HA3.out)
   |(with_reducible exact twoq_half gb.2.2.2.2.2.2.2.2.2 HA3.out)
   |(with_reducible exact twoq_half gc.2.2.2.2.2.2.2.2.2 HA3.out)
   |(with_reducible exact twoq_half gd.2.2.2.2.2.2.2.2.2 HA3.out)
   |(with_reducible exact twoq_top ga.2.2.2.2.2.2.2.2.2 HA3.out)
   |(with_reducible exact twoq_top gb.2.2.2.2.2.2.2.2.2 HA3.out)
   |(with_reducible exact twoq_top gc.2.2.2.2.2.2.2.2.2 HA3.out)
   |(with_reducible exact twoq_top gd.2.2.2.2.2.2.2.2.2 HA3.out)
   |(with_reducible exact twoq_put (by omega) ga.2.2.2.2.2.2.2.2.2 gb.2.2.2.2.2.2.2.2.2 HA3.out.1 HA3.out.2)
   |(with_reducible exact twoq_put (by omega) ga.2.2.2.2.2.2.2.2.2 gc.2.2.2.2.2.2.2.2.2 HA3.out.1 HA3.out.2)
   |(with_reducible exact twoq_put (by omega) ga.2.2.2.2.2.2.2.2.2 gd.2.2.2.2.2.2.2.2.2 HA3.out.1 HA3.out.2)
   |(with_reducible exact twoq_put (by omega) gb.2.2.2.2.2.2.2.2.2 ga.2.2.2.2.2.2.2.2.2 HA3.out.1 HA3.out.2)
   |(with_reducible exact twoq_put (by omega) gb.2.2.2.2.2.2.2.2.2 gc.2.2.2.2.2.2.2.2.2 HA3.out.1 HA3.out.2)
   |(with_reducible exact twoq_put (by omega) gb.2.2.2.2.2.2.2.2.2 gd.2.2.2.2.2.2.2.2.2 HA3.out.1 HA3.out.2)
   |(with_reducible exact twoq_put (by omega) gc.2.2.2.2.2.2.2.2.2 ga.2.2.2.2.2.2.2.2.2 HA3.out.1 HA3.out.2)
   |(with_reducible exact twoq_put (by omega) gc.2.2.2.2.2.2.2.2.2 gb.2.2.2.2.2.2.2.2.2 HA3.out.1 HA3.out.2)
   |(with_reducible exact twoq_put (by omega) gc.2.2.2.2.2.2.2.2.2 gd.2.2.2.2.2.2.2.2.2 HA3.out.1 HA3.out.2)
   |(with_reducible exact twoq_put (by omega) gd.2.2.2.2.2.2.2.2.2 ga.2.2.2.2.2.2.2.2.2 HA3.out.1 HA3.out.2)
   |(with_reducible exact twoq_put (by omega) gd.2.2.2.2.2.2.2.2.2 gb.2.2.2.2.2.2.2.2.2 HA3.out.1 HA3.out.2)
   |(with_reducible exact twoq_put (by omega) gd.2.2.2.2.2.2.2.2.2 gc.2.2.2.2.2.2.2.2.2 HA3.out.1 HA3.out.2)
   | omega
   | go_grown
 case rest=>
  obtain⟨g5,g6,rfl,rfl,hne,hg5,hg6,⟨s1,p1,n1,c1,t1,q1,m1,d1,s2,p2,n2,c2,t2,q2,m2,d2,XA,XB,zx,zy⟩,hbd⟩:=hcut
  have hlt5:w.heap.size+1+1<g5:=by omega
  have hlt6:w.heap.size+1+1<g6:=by omega
  have XR:=bk HR0 hbd
  have hbw:=HBC.out.trans (hbd.mono HBC.out.size)
  have TR:=Sts.qbox XR
  obtain⟨we,rfl⟩:∃ we:World,we=wc:=⟨_,rfl⟩
  have sx:=zx.sizes
  have sy:=zy.sizes
  have hx:=HX.out
  have hy:=HY.out
  have HQX:=Kh zx
  have HQY:=Kh zy
  have HM1:=Kh (fun w1 (hb:Below we.heap.size we w1)=>c_rMul s1 p1 n1 c1 x.num t2 q2 m2 d2 y.den w1 (HQX.out.1.raw.keep hb) (HQY.out.2.raw.keep hb) (by omega) (by omega))
  have HM2:=Kh (fun w1 (hb:Below we.heap.size we w1)=>c_rMul s2 p2 n2 c2 y.num t1 q1 m1 d1 x.den w1 (HQY.out.1.raw.keep hb) (HQX.out.2.raw.keep hb) (by omega) (by omega))
  have HM3:=Kh (fun w1 (hb:Below we.heap.size we w1)=>c_rMul t1 q1 m1 d1 x.den t2 q2 m2 d2 y.den w1 (HQX.out.2.raw.keep hb) (HQY.out.2.raw.keep hb) (by omega) (by omega))
  have HS1:=Kh (show nd (x.num*y.den).natAbs≤2199023255540 by rw[Int.natAbs_mul];have:=nd_mul x.num.natAbs (y.den:Int).natAbs;have:=hq_num x;have:=hq_den y;rw[Int.natAbs_natCast]at *;omega)
  have HS2:=Kh (show nd (y.num*x.den).natAbs≤2199023255540 by rw[Int.natAbs_mul];have:=nd_mul y.num.natAbs (x.den:Int).natAbs;have:=hq_num y;have:=hq_den x;rw[Int.natAbs_natCast]at *;omega)
  have HS3:=Kh (show nd ((x.den:Int)*y.den).natAbs≤2199023255540 by rw[Int.natAbs_mul];have:=nd_mul (x.den:Int).natAbs (y.den:Int).natAbs;have:=hq_den x;have:=hq_den y;rw[Int.natAbs_natCast,Int.natAbs_natCast]at *;omega)
  have HV:=Kh (rat_add x y).symm
  clear hx hy sx sy zx zy HN1 HN2 HX HY X0 X1 X2 hb0 hs0 hbd hg5 hg6 hlt HBC HR0 HQX HQY hne
  go_upto_region 2 with(fail)
  have M2:True:=trivial
  have hS0:=S8_4_next (Below.refl _ we).drew ⟨XA.c0,XA.c1,XA.c2,XA.c3,XB.c0,XB.c1,XB.c2,XB.c3,XR.so 0,XR.free_ 0,TR,XR.so 1,XR.free_ 1,TR,XR.so 2,XR.free_ 2,TR,XR.so 3,XR.free_ 3,TR,hbw,Below.size (show Below w.heap.size w we from hbw)⟩
  clear XA XB XR TR
  have M1:True:=trivial
  go_region_held3 (fun w1=>w1.cell? ⟨g5,0,none⟩=some (.bool s1)∧w1.cell? ⟨g5,1,none⟩=some (.slice p1 n1 c1)∧w1.cell? ⟨g5,2,none⟩=some (.bool t1)∧w1.cell? ⟨g5,3,none⟩=some (.slice q1 m1 d1)∧w1.cell? ⟨g6,0,none⟩=some (.bool s2)∧w1.cell? ⟨g6,1,none⟩=some (.slice p2 n2 c2)∧w1.cell? ⟨g6,2,none⟩=some (.bool t2)∧w1.cell? ⟨g6,3,none⟩=some (.slice q2 m2 d2)∧w1.cell? ⟨w.heap.size+1+1,0,none⟩=some (cellOf w1 ⟨w.heap.size+1+1,0,none⟩)∧w1.frozen? ⟨w.heap.size+1+1,0,none⟩=false∧Sts w1 (w.heap.size+1+1)∧w1.cell? ⟨w.heap.size+1+1,1,none⟩=some (cellOf w1 ⟨w.heap.size+1+1,1,none⟩)∧w1.frozen? ⟨w.heap.size+1+1,1,none⟩=false∧Sts w1 (w.heap.size+1+1)∧w1.cell? ⟨w.heap.size+1+1,2,none⟩=some (cellOf w1 ⟨w.heap.size+1+1,2,none⟩)∧w1.frozen? ⟨w.heap.size+1+1,2,none⟩=false∧Sts w1 (w.heap.size+1+1)∧w1.cell? ⟨w.heap.size+1+1,3,none⟩=some (cellOf w1 ⟨w.heap.size+1+1,3,none⟩)∧w1.frozen? ⟨w.heap.size+1+1,3,none⟩=false∧Sts w1 (w.heap.size+1+1)∧Below w.heap.size w w1∧w.heap.size≤w1.heap.size)
   (first|with_reducible exact hS0 |(refine S8_4_next (by with_reducible assumption) ?_;assumption) |(refine S8_4_put ?_ ?_ ?_ ?_ ?_ ?_ ?_ ?_ ?_ ?_ ?_ ?_ ?_ ?_ ?_ ?_ ?_ ?_ ?_ ?_ ?_ ?_ ?_ ?_ ?_ ?_ ?_ ?_ ?_ ?_ ?_ ?_ ?_ ?_ ?_ ?_ ?_ ?_ ?_ ?_ ?_ <;> first|assumption|exact NotInt.bool _|exact NotInt.slice _ _ _ |(dsimp only;omega) |(simp;done)))
   (first
    |(go_at_call 108;clear M1;refine(HM1.out _ (by first|exact(Below.refl _ _).drew|exact Below.refl _ _)).mono ?_;rintro e w2 ⟨⟨s3,p3,n3,e3,rfl,hz3⟩,hb3⟩;have HA3:=Kh hz3;have HB3:=Kh (show Below we.heap.size we w2 from(by first|exact(Below.refl _ we).drew.trans hb3|exact hb3));clear hz3)
    |(go_at_call 108;clear M2;refine(HM2.out _ HB3.out).mono ?_;rintro e w3 ⟨⟨s4,p4,n4,e4,rfl,hz4⟩,hb4⟩;have HB4:=bt HB3 hb4;have HA4:=Kh (show Zs w3 s3 p3 n3 e3 (x.num*y.den)∧Zs w3 s4 p4 n4 e4 (y.num*x.den)from⟨HA3.out.keep hb4,hz4⟩);clear hz4 hb3 HA3 HB3)
    |(go_at_call 107;refine(c_rAdd s3 p3 n3 e3 (x.num*y.den) s4 p4 n4 e4 (y.num*x.den) _ HA4.out.1.raw HA4.out.2.raw (by rw[← HA4.out.1.2.1];have:=HS1.out;omega) (by rw[← HA4.out.2.2.1];have:=HS2.out;omega)).mono ?_;rintro e w4 ⟨⟨s5,p5,n5,e5,rfl,hz5⟩,hb5⟩;have HB5:=bt HB4 hb5;have HA5:=Kh hz5;clear hz5 hb4 HA4 HB4)
    |(go_at_call 108;refine(HM3.out _ HB5.out).mono ?_;rintro e w5 ⟨⟨s6,p6,n6,e6,rfl,hz6⟩,hb6⟩;have HOV:=Kh (c_sOver s5 p5 n5 e5 (x.num*y.den+y.num*x.den) s6 p6 n6 e6 (x.den*y.den) w5 (HA5.out.keep hb6).raw hz6.raw (by rw[← HA5.out.2.1];have:=nd_add_int _ _ HS1.out HS2.out;omega) (by rw[← hz6.2.1];have:=HS3.out;omega));clear hz6 hb5 HA5 HB5)
    |(go_at_call 106;refine HOV.out.mono ?_;rintro e w6 ⟨⟨s7,p7,n7,e7,t7,q7,m7,d7,rfl,hq7⟩,hb7⟩;clear hb6;obtain⟨⟨hR0,hT⟩,⟨hR1,_⟩,⟨hR2,_⟩,⟨hR3,_⟩⟩:=S8_4_end hb7 (by with_reducible assumption);have hq8:=Kh (hq7.put4 hT (.bool s7) (.slice p7 n7 e7) (.bool t7) (.slice q7 m7 d7) (NotInt.bool _) (NotInt.slice _ _ _) (NotInt.bool _));clear hq7 hT))
  go_wp2
  try simp only[Exit.inBlock,Exit.then]
  refine bodyPost_ret (by simp[results,Tryz.results69,go_sem,hR0,hR1,hR2,hR3];try rfl) rfl ?_
  exact⟨⟨s7,p7,n7,e7,t7,q7,m7,d7,rfl,HV.out▸hq8.out⟩,S8_4_below (by assumption)⟩
end Go.Proofs.YtijgdhijdfgpfaaGreatDoor
