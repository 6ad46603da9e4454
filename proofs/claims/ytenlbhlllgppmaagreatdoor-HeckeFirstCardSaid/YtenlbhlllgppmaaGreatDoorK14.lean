/- Contracts of bigint on integers: Normal, Neg, Add, Mul, Gcd, Sign, Of. -/
import Derived.Test.YtenlbhlllgppmaaGreatDoorK13
set_option maxRecDepth 100000
set_option maxHeartbeats 8000000
namespace Go.Proofs.YtenlbhlllgppmaaGreatDoor
open Go.RowKit
theorem c_Normal (s:Bool) (p:Option Addr) (n c:Nat) (z:Int) (w:World) (h:Zr w s p n c z) (hn:n≤35184372088830):
  Calls Tryz.prog 134 #[.agg #[.bool s,.slice p n c]] w fun e w'=>RetZ w' e (z)∧Below w.heap.size w w':=by
 obtain⟨k,hk,hk2,HL⟩:=h.letters hn
 have hC:=fun w1 (hb:Below w.heap.size w w1)=>clone_nm p c z.natAbs w1 (HL.out.2.1.keep hb) (by omega)
 rw[hk2]at hC
 have HC:=Kh hC
 have HK:=Kh hk2
 have HV:=Kh (show sg (s) z.natAbs=z by exact HL.out.1)
 clear hC hk2 h
 go_enter Tryz.func134,Tryz.ntmps134
 go_upto_region 1 with(fail)
 obtain⟨w0,hw0,X0,X1,hb0⟩:=bx2 w #[.bool s,.slice p n c] 84 #[.bool false,.slice none 0 0] 84
 rw[hw0]
 have hs0:w.heap.size≤w0.heap.size:=hb0.size
 clear hw0
 have T1:=Sts.of X1 (by intro v hv;simp at hv;rcases hv with rfl|rfl <;> first|exact NotInt.bool _|exact NotInt.slice _ _ _)
 have hS0:=S2_2_next (Below.refl _ w0).drew ⟨X0.c0,X0.c1,X1.so 0,X1.free_ 0,T1,X1.so 1,X1.free_ 1,T1,hb0,hs0⟩
 clear X0 X1
 go_region_held3 (fun w1=>w1.cell? ⟨w.heap.size,0,none⟩=some (.bool s)∧w1.cell? ⟨w.heap.size,1,none⟩=some (.slice p n c)∧w1.cell? ⟨w.heap.size+1,0,none⟩=some (cellOf w1 ⟨w.heap.size+1,0,none⟩)∧w1.frozen? ⟨w.heap.size+1,0,none⟩=false∧Sts w1 (w.heap.size+1)∧w1.cell? ⟨w.heap.size+1,1,none⟩=some (cellOf w1 ⟨w.heap.size+1,1,none⟩)∧w1.frozen? ⟨w.heap.size+1,1,none⟩=false∧Sts w1 (w.heap.size+1)∧Below w.heap.size w w1∧w.heap.size≤w1.heap.size)
  (first|with_reducible exact hS0 |(refine S2_2_next (by with_reducible assumption) ?_;assumption) |(refine S2_2_put ?_ ?_ ?_ ?_ ?_ ?_ ?_ ?_ ?_ <;> first|assumption|exact NotInt.bool _|exact NotInt.slice _ _ _ |(dsimp only;omega) |(simp;done)))
  (first
   |(go_at_call 129;refine(HL.out.2.2 _ (S2_2_below (by with_reducible assumption))).mono ?_;rintro e w' ⟨rfl,rfl⟩)
   |(go_at_call 147;refine(HC.out _ (S2_2_below (by with_reducible assumption))).mono ?_;rintro e w2 ⟨⟨p1,c1,rfl,hn1⟩,hb1⟩;rw[HK.out];have HS:=signed_nm (s) p1 c1 k z.natAbs w2 hn1 HK.out (by omega);replace HS:=Kh HS;clear hn1)
   |(go_at_call 131;refine HS.out.mono ?_;rintro e w3 ⟨⟨s2,p2,n2,c2,rfl,hz2⟩,hb2⟩;clear hb1;obtain⟨⟨hR0,hT⟩,⟨hR1,_⟩⟩:=S2_2_end hb2 (by with_reducible assumption);have hz3:=hz2.put2 hT 0 1 (.bool s2) (.slice p2 n2 c2) (NotInt.bool _);replace hz3:=Kh hz3;clear hz2 hT))
 go_wp2
 try simp only[Exit.inBlock,Exit.then]
 refine bodyPost_ret (by simp[results,Tryz.results134,go_sem,hR0,hR1];try rfl) rfl ?_
 exact⟨⟨s2,p2,n2,c2,rfl,HV.out▸hz3.out⟩,S2_2_below (by assumption)⟩
theorem c_Neg (s:Bool) (p:Option Addr) (n c:Nat) (z:Int) (w:World) (h:Zr w s p n c z) (hn:n≤35184372088830):
  Calls Tryz.prog 98 #[.agg #[.bool s,.slice p n c]] w fun e w'=>RetZ w' e (-z)∧Below w.heap.size w w':=by
 obtain⟨k,hk,hk2,HL⟩:=h.letters hn
 have hC:=fun w1 (hb:Below w.heap.size w w1)=>clone_nm p c z.natAbs w1 (HL.out.2.1.keep hb) (by omega)
 rw[hk2]at hC
 have HC:=Kh hC
 have HK:=Kh hk2
 have HV:=Kh (show sg (!s) z.natAbs=-z by rw[sg_not,HL.out.1])
 clear hC hk2 h
 go_enter Tryz.func98,Tryz.ntmps98
 go_upto_region 1 with(fail)
 obtain⟨w0,hw0,X0,X1,hb0⟩:=bx2 w #[.bool s,.slice p n c] 84 #[.bool false,.slice none 0 0] 84
 rw[hw0]
 have hs0:w.heap.size≤w0.heap.size:=hb0.size
 clear hw0
 have T1:=Sts.of X1 (by intro v hv;simp at hv;rcases hv with rfl|rfl <;> first|exact NotInt.bool _|exact NotInt.slice _ _ _)
 have hS0:=S2_2_next (Below.refl _ w0).drew ⟨X0.c0,X0.c1,X1.so 0,X1.free_ 0,T1,X1.so 1,X1.free_ 1,T1,hb0,hs0⟩
 clear X0 X1
 go_region_held3 (fun w1=>w1.cell? ⟨w.heap.size,0,none⟩=some (.bool s)∧w1.cell? ⟨w.heap.size,1,none⟩=some (.slice p n c)∧w1.cell? ⟨w.heap.size+1,0,none⟩=some (cellOf w1 ⟨w.heap.size+1,0,none⟩)∧w1.frozen? ⟨w.heap.size+1,0,none⟩=false∧Sts w1 (w.heap.size+1)∧w1.cell? ⟨w.heap.size+1,1,none⟩=some (cellOf w1 ⟨w.heap.size+1,1,none⟩)∧w1.frozen? ⟨w.heap.size+1,1,none⟩=false∧Sts w1 (w.heap.size+1)∧Below w.heap.size w w1∧w.heap.size≤w1.heap.size)
  (first|with_reducible exact hS0 |(refine S2_2_next (by with_reducible assumption) ?_;assumption) |(refine S2_2_put ?_ ?_ ?_ ?_ ?_ ?_ ?_ ?_ ?_ <;> first|assumption|exact NotInt.bool _|exact NotInt.slice _ _ _ |(dsimp only;omega) |(simp;done)))
  (first
   |(go_at_call 129;refine(HL.out.2.2 _ (S2_2_below (by with_reducible assumption))).mono ?_;rintro e w' ⟨rfl,rfl⟩)
   |(go_at_call 147;refine(HC.out _ (S2_2_below (by with_reducible assumption))).mono ?_;rintro e w2 ⟨⟨p1,c1,rfl,hn1⟩,hb1⟩;rw[HK.out];have HS:=signed_nm (!s) p1 c1 k z.natAbs w2 hn1 HK.out (by omega);replace HS:=Kh HS;clear hn1)
   |(go_at_call 131;refine HS.out.mono ?_;rintro e w3 ⟨⟨s2,p2,n2,c2,rfl,hz2⟩,hb2⟩;clear hb1;obtain⟨⟨hR0,hT⟩,⟨hR1,_⟩⟩:=S2_2_end hb2 (by with_reducible assumption);have hz3:=hz2.put2 hT 0 1 (.bool s2) (.slice p2 n2 c2) (NotInt.bool _);replace hz3:=Kh hz3;clear hz2 hT))
 go_wp2
 try simp only[Exit.inBlock,Exit.then]
 refine bodyPost_ret (by simp[results,Tryz.results98,go_sem,hR0,hR1];try rfl) rfl ?_
 exact⟨⟨s2,p2,n2,c2,rfl,HV.out▸hz3.out⟩,S2_2_below (by assumption)⟩
theorem c_Mul (s:Bool) (p:Option Addr) (n c:Nat) (x:Int) (t:Bool) (q:Option Addr) (m d:Nat) (y:Int) (w:World) (h:Zr w s p n c x) (h':Zr w t q m d y) (hn:n≤17592186044400) (hm:m≤17592186044400):
  Calls Tryz.prog 84 #[.agg #[.bool s,.slice p n c],.agg #[.bool t,.slice q m d]] w fun e w'=>RetZ w' e (x*y)∧Below w.heap.size w w':=by
 obtain⟨k,hk,hk2,HL⟩:=h.letters (by omega)
 obtain⟨l,hl,hl2,KL⟩:=h'.letters (by omega)
 have hC:=fun w1 (hb:Below w.heap.size w w1)=>c_times p c (nd x.natAbs) (dg x.natAbs) q d (nd y.natAbs) (dg y.natAbs) w1 (HL.out.2.1.keep hb) (KL.out.2.1.keep hb) (by omega) (by omega)
 rw[hk2,hl2]at hC
 rw[show vf (dg x.natAbs) k=x.natAbs by rw[← hk2,vf_nd],show vf (dg y.natAbs) l=y.natAbs by rw[← hl2,vf_nd]]at hC
 have HC:=Kh hC
 have HV:=Kh (show sg (s != t) (x.natAbs*y.natAbs)=x*y by rw[← sg_mul,HL.out.1,KL.out.1])
 clear hC hk2 hl2 h h'
 go_enter Tryz.func84,Tryz.ntmps84
 go_upto_region 1 with(fail)
 obtain⟨w0,hw0,X0,X1,X2,hb0⟩:=bx3 w #[.bool s,.slice p n c] 84 #[.bool t,.slice q m d] 84 #[.bool false,.slice none 0 0] 84
 rw[hw0]
 have hs0:w.heap.size≤w0.heap.size:=hb0.size
 clear hw0
 have M1:True:=trivial
 have T2:=Sts.of X2 (by intro v hv;simp at hv;rcases hv with rfl|rfl <;> first|exact NotInt.bool _|exact NotInt.slice _ _ _)
 have hS0:=S4_2_next (Below.refl _ w0).drew ⟨X0.c0,X0.c1,X1.c0,X1.c1,X2.so 0,X2.free_ 0,T2,X2.so 1,X2.free_ 1,T2,hb0,hs0⟩
 clear X0 X1 X2
 go_region_held3 (fun w1=>w1.cell? ⟨w.heap.size,0,none⟩=some (.bool s)∧w1.cell? ⟨w.heap.size,1,none⟩=some (.slice p n c)∧w1.cell? ⟨w.heap.size+1,0,none⟩=some (.bool t)∧w1.cell? ⟨w.heap.size+1,1,none⟩=some (.slice q m d)∧w1.cell? ⟨w.heap.size+1+1,0,none⟩=some (cellOf w1 ⟨w.heap.size+1+1,0,none⟩)∧w1.frozen? ⟨w.heap.size+1+1,0,none⟩=false∧Sts w1 (w.heap.size+1+1)∧w1.cell? ⟨w.heap.size+1+1,1,none⟩=some (cellOf w1 ⟨w.heap.size+1+1,1,none⟩)∧w1.frozen? ⟨w.heap.size+1+1,1,none⟩=false∧Sts w1 (w.heap.size+1+1)∧Below w.heap.size w w1∧w.heap.size≤w1.heap.size)
  (first|with_reducible exact hS0 |(refine S4_2_next (by with_reducible assumption) ?_;assumption) |(refine S4_2_put ?_ ?_ ?_ ?_ ?_ ?_ ?_ ?_ ?_ ?_ ?_ ?_ ?_ <;> first|assumption|exact NotInt.bool _|exact NotInt.slice _ _ _ |(dsimp only;omega) |(simp;done)))
  (first
   |(go_at_call 129;clear M1;refine(HL.out.2.2 _ (S4_2_below (by with_reducible assumption))).mono ?_;rintro e w' ⟨rfl,rfl⟩)
   |(go_at_call 129;refine(KL.out.2.2 _ (S4_2_below (by with_reducible assumption))).mono ?_;rintro e w' ⟨rfl,rfl⟩)
   |(go_at_call 133;refine(HC.out _ (S4_2_below (by with_reducible assumption))).mono ?_;rintro e w2 ⟨⟨k1,hk1,p1,c1,r1,rfl,hd1,hv1⟩,hb1⟩;have HS:=c_signed (s != t) p1 c1 k1 r1 w2 hd1 (by omega);rw[hv1]at HS;replace HS:=Kh HS;clear hd1 hv1 hk1)
   |(go_at_call 131;refine HS.out.mono ?_;rintro e w3 ⟨⟨s2,p2,n2,c2,rfl,hz2⟩,hb2⟩;clear hb1;obtain⟨⟨hR0,hT⟩,⟨hR1,_⟩⟩:=S4_2_end hb2 (by with_reducible assumption);have hz3:=hz2.put2 hT 0 1 (.bool s2) (.slice p2 n2 c2) (NotInt.bool _);replace hz3:=Kh hz3;clear hz2 hT))
 go_wp2
 try simp only[Exit.inBlock,Exit.then]
 refine bodyPost_ret (by simp[results,Tryz.results84,go_sem,hR0,hR1];try rfl) rfl ?_
 exact⟨⟨s2,p2,n2,c2,rfl,HV.out▸hz3.out⟩,S4_2_below (by assumption)⟩
theorem c_Gcd (s:Bool) (p:Option Addr) (n c:Nat) (x:Int) (t:Bool) (q:Option Addr) (m d:Nat) (y:Int) (w:World) (h:Zr w s p n c x) (h':Zr w t q m d y) (hn:n≤17592186044400) (hm:m≤17592186044400):
  Calls Tryz.prog 135 #[.agg #[.bool s,.slice p n c],.agg #[.bool t,.slice q m d]] w fun e w'=>RetZ w' e ((Int.gcd x y:Nat))∧Below w.heap.size w w':=by
 obtain⟨k,hk,hk2,HL⟩:=h.letters (by omega)
 obtain⟨l,hl,hl2,KL⟩:=h'.letters (by omega)
 have hC:=fun w1 (hb:Below w.heap.size w w1)=>c_common p c x.natAbs q d y.natAbs w1 (HL.out.2.1.keep hb) (KL.out.2.1.keep hb) (by omega) (by omega)
 rw[hk2,hl2,show Nat.gcd x.natAbs y.natAbs=Int.gcd x y from rfl]at hC
 obtain⟨G,hG⟩:∃ G,Int.gcd x y=G:=⟨_,rfl⟩
 have hGk:nd G≤k+l:=by
  rw[← hG,← hk2,← hl2]
  by_cases hx0:x.natAbs=0
  ·have e:Int.gcd x y=y.natAbs:=by show Nat.gcd x.natAbs y.natAbs=_;rw[hx0,Nat.gcd_zero_left]
   rw[e];omega
  ·have e:=nd_mono (Nat.gcd_le_left y.natAbs (show 0<x.natAbs by omega))
   exact Nat.le_trans e (by omega)
 rw[hG]at hC ⊢
 obtain⟨g,hg⟩:∃ g,nd G=g:=⟨_,rfl⟩
 rw[hg]at hGk
 have HG:=Kh hg
 have HC:=Kh hC
 have HV:=Kh (show sg false G=(G:Nat)from rfl)
 clear hC hk2 hl2 h h' hG hg
 go_enter Tryz.func135,Tryz.ntmps135
 go_upto_region 1 with(fail)
 obtain⟨w0,hw0,X0,X1,X2,hb0⟩:=bx3 w #[.bool s,.slice p n c] 84 #[.bool t,.slice q m d] 84 #[.bool false,.slice none 0 0] 84
 rw[hw0]
 have hs0:w.heap.size≤w0.heap.size:=hb0.size
 clear hw0
 have M1:True:=trivial
 have T2:=Sts.of X2 (by intro v hv;simp at hv;rcases hv with rfl|rfl <;> first|exact NotInt.bool _|exact NotInt.slice _ _ _)
 have hS0:=S4_2_next (Below.refl _ w0).drew ⟨X0.c0,X0.c1,X1.c0,X1.c1,X2.so 0,X2.free_ 0,T2,X2.so 1,X2.free_ 1,T2,hb0,hs0⟩
 clear X0 X1 X2
 go_region_held3 (fun w1=>w1.cell? ⟨w.heap.size,0,none⟩=some (.bool s)∧w1.cell? ⟨w.heap.size,1,none⟩=some (.slice p n c)∧w1.cell? ⟨w.heap.size+1,0,none⟩=some (.bool t)∧w1.cell? ⟨w.heap.size+1,1,none⟩=some (.slice q m d)∧w1.cell? ⟨w.heap.size+1+1,0,none⟩=some (cellOf w1 ⟨w.heap.size+1+1,0,none⟩)∧w1.frozen? ⟨w.heap.size+1+1,0,none⟩=false∧Sts w1 (w.heap.size+1+1)∧w1.cell? ⟨w.heap.size+1+1,1,none⟩=some (cellOf w1 ⟨w.heap.size+1+1,1,none⟩)∧w1.frozen? ⟨w.heap.size+1+1,1,none⟩=false∧Sts w1 (w.heap.size+1+1)∧Below w.heap.size w w1∧w.heap.size≤w1.heap.size)
  (first|with_reducible exact hS0 |(refine S4_2_next (by with_reducible assumption) ?_;assumption) |(refine S4_2_put ?_ ?_ ?_ ?_ ?_ ?_ ?_ ?_ ?_ ?_ ?_ ?_ ?_ <;> first|assumption|exact NotInt.bool _|exact NotInt.slice _ _ _ |(dsimp only;omega) |(simp;done)))
  (first
   |(go_at_call 129;clear M1;refine(HL.out.2.2 _ (S4_2_below (by with_reducible assumption))).mono ?_;rintro e w' ⟨rfl,rfl⟩)
   |(go_at_call 129;refine(KL.out.2.2 _ (S4_2_below (by with_reducible assumption))).mono ?_;rintro e w' ⟨rfl,rfl⟩)
   |(go_at_call 169;refine(HC.out _ (S4_2_below (by with_reducible assumption))).mono ?_;rintro e w2 ⟨⟨p1,c1,rfl,hn1⟩,hb1⟩;rw[HG.out];have HS:=signed_nm false p1 c1 g G w2 hn1 HG.out (by omega);replace HS:=Kh HS;clear hn1)
   |(go_at_call 131;refine HS.out.mono ?_;rintro e w3 ⟨⟨s2,p2,n2,c2,rfl,hz2⟩,hb2⟩;clear hb1;obtain⟨⟨hR0,hT⟩,⟨hR1,_⟩⟩:=S4_2_end hb2 (by with_reducible assumption);have hz3:=hz2.put2 hT 0 1 (.bool s2) (.slice p2 n2 c2) (NotInt.bool _);replace hz3:=Kh hz3;clear hz2 hT))
 go_wp2
 try simp only[Exit.inBlock,Exit.then]
 refine bodyPost_ret (by simp[results,Tryz.results135,go_sem,hR0,hR1];try rfl) rfl ?_
 exact⟨⟨s2,p2,n2,c2,rfl,HV.out▸hz3.out⟩,S4_2_below (by assumption)⟩
theorem c_Sign (s:Bool) (p:Option Addr) (n c:Nat) (z:Int) (w:World) (h:Zr w s p n c z) (hn:n≤35184372088830):
  Calls Tryz.prog 79 #[.agg #[.bool s,.slice p n c]] w fun e w'=>e=.returned (.int .i64 (Int.sign z))∧Below w.heap.size w w':=by
 obtain⟨k,hk,hk2,HL⟩:=h.letters hn
 have hb:∀ o,Below w.heap.size w (w.alloc o):=fun o=>(Below.refl _ _).alloc (Nat.le_refl _) o
 have HB:=Kh hb
 have HZ:=Kh (show k=0↔z=0 by rw[← hk2];have:=nd_pos (v:=z.natAbs);omega)
 have HV:=Kh HL.out.1
 clear hk2 h hb
 go_enter Tryz.func79,Tryz.ntmps79
 go_wp2_with fail
 refine(HL.out.2.2 _ (HB.out _)).mono ?_
 rintro e w1 ⟨rfl,rfl⟩
 clear HL
 by_cases hk0:k=0
 ·have hz:=HZ.out.1 hk0
  subst hk0 hz
  go_wp2
  go_ret
  exact⟨rfl,HB.out _⟩
 ·have hz:z≠0:=fun h=>hk0 (HZ.out.2 h)
  have hkb:((k:Int)==0)=false:=beq_eq_false_iff_ne.2 (by omega)
  have HNZ:=Kh hz
  clear hz
  cases s with
  | false=>
   have hs:Int.sign z=1:=Int.sign_eq_one_of_pos (by have h1:=HV.out;have h2:=HNZ.out;rw[sg_false]at h1;omega)
   have HS:=Kh hs
   clear hs
   go_wp2
   go_ret
   exact⟨ret_i HS.out.symm,HB.out _⟩
  | true=>
   have hs:Int.sign z=-1:=Int.sign_eq_neg_one_of_neg (by have h1:=HV.out;have h2:=HNZ.out;rw[show sg true z.natAbs=-(z.natAbs:Int)from rfl]at h1;omega)
   have HS:=Kh hs
   clear hs
   go_wp2
   go_ret
   exact⟨ret_i HS.out.symm,HB.out _⟩
theorem c_Of (n:Int) (w:World) (h1:-4611686018427387904≤n) (h2:n≤4611686018427387904):
  Calls Tryz.prog 83 #[.int .i64 n] w fun e w'=>RetZ w' e n∧Below w.heap.size w w':=by
 obtain⟨v,hv⟩:∃ v:Nat,n.natAbs=v:=⟨_,rfl⟩
 have hvl:v≤4611686018427387904:=by omega
 have HW:=Kh (fun w=>(c_wide v w (by omega)).mono (fun _ _ h=>And.imp_left RetN.op h))
 have hb:Below w.heap.size w (w.alloc (.cells #[.bool false,.slice none 0 0] 84)):=(Below.refl _ _).alloc (Nat.le_refl _) _
 have HB:=Kh hb
 have HVL:=Kh hvl
 have hnv:=nd_le (v:=v) (k:=2)
 have hnv2:nd v≤2:=hnv.2 (by omega)
 have HN2:=Kh hnv2
 have X:=Blk.new w 84 #[.bool false,.slice none 0 0]
 have HT:=Kh (Sts.of X (by intro v hv;simp at hv;rcases hv with rfl|rfl <;> first|exact NotInt.bool _|exact NotInt.slice _ _ _))
 have X0:((w.alloc (.cells #[.bool false,.slice none 0 0] 84)).cell? ⟨w.heap.size,0,none⟩).isSome=true:=by rw[X.at_ 0 rfl];rfl
 have X1:((w.alloc (.cells #[.bool false,.slice none 0 0] 84)).cell? ⟨w.heap.size,1,none⟩).isSome=true:=by rw[X.at_ 1 rfl];rfl
 have hfz:∀ i,(w.alloc (.cells #[.bool false,.slice none 0 0] 84)).frozen? ⟨w.heap.size,i,none⟩=false:=fun i=>X.free_ i
 obtain⟨w0,hw0⟩:∃ w0,w.alloc (.cells #[.bool false,.slice none 0 0] 84)=w0:=⟨_,rfl⟩
 rw[hw0]at HB HT X0 X1
 simp only[hw0]at hfz
 have HX0:=Kh X0
 have HX1:=Kh X1
 have HF:=Kh hfz
 clear X X0 X1 hfz hb hvl hnv hnv2
 by_cases hneg:n<0
 ·have e1:IntKind.u64.wrap n=n+18446744073709551616:=by rw[IntKind.wrap_u64];omega
  have e2:IntKind.u64.wrap (-(n+18446744073709551616))=(v:Nat):=by rw[IntKind.wrap_u64];omega
  have e3:IntKind.u64.wrap (-n)=(v:Nat):=by rw[IntKind.wrap_u64];omega
  have hd:decide (n<0)=true:=decide_eq_true hneg
  have HZ:=Kh (show sg true v=n by unfold sg;rw[if_pos rfl];omega)
  clear h1 h2 hneg hv
  go_enter Tryz.func83,Tryz.ntmps83
  go_wp2_with fail
  refine(HW.out _).mono ?_
  rintro e w1 ⟨⟨p1,n1,c1,rfl,hn1,hm1⟩,hb1⟩
  have HS:=Kh (signed_nm true p1 c1 n1 v w1 hm1 hn1 (by have:=HN2.out;omega))
  have HB1:=Kh hb1
  clear hn1 hm1 hb1 HW
  go_wp2_with fail
  refine HS.out.mono ?_
  rintro e w2 ⟨⟨s2,p2,n2,c2,rfl,hz2⟩,hb2⟩
  have hb02:Below w0.heap.size w0 w2:=HB1.out.trans (hb2.mono HB1.out.size)
  obtain⟨u0,hu0⟩:∃ u,w2.cell? ⟨w.heap.size,0,none⟩=some u:=by
   rw[hb02.cell (p:=⟨w.heap.size,0,none⟩) HT.out.1];exact Option.isSome_iff_exists.1 HX0.out
  obtain⟨u1,hu1⟩:∃ u,w2.cell? ⟨w.heap.size,1,none⟩=some u:=by
   rw[hb02.cell (p:=⟨w.heap.size,1,none⟩) HT.out.1];exact Option.isSome_iff_exists.1 HX1.out
  have f0:=frozen_keep hb02 HX0.out (HF.out 0)
  have f1:=frozen_keep hb02 HX1.out (HF.out 1)
  have hz3:=hz2.put2 (HT.out.next hb02) 0 1 (.bool s2) (.slice p2 n2 c2) (NotInt.bool _)
  have hb3:Below w.heap.size w ((w2.setCell ⟨w.heap.size,0,none⟩ (.bool s2)).setCell ⟨w.heap.size,1,none⟩ (.slice p2 n2 c2)):=((HB.out.trans (hb02.mono HB.out.size)).setCell (Nat.le_refl _) _).setCell (Nat.le_refl _) _
  have HZ3:=Kh hz3
  have HB3:=Kh hb3
  clear hz2 hb2 hb02 hz3 hb3 HS HB1
  go_wp2
  try simp only[Exit.inBlock,Exit.then]
  refine bodyPost_ret (by simp[results,Tryz.results83,go_sem,hu0,hu1];try rfl) rfl ?_
  exact⟨⟨s2,p2,n2,c2,rfl,HZ.out▸HZ3.out⟩,HB3.out⟩
 ·have e1:IntKind.u64.wrap n=(v:Nat):=by rw[IntKind.wrap_u64];omega
  have hd:decide (n<0)=false:=decide_eq_false hneg
  have HZ:=Kh (show sg false v=n by rw[sg_false];omega)
  clear h1 h2 hneg hv
  go_enter Tryz.func83,Tryz.ntmps83
  go_wp2_with fail
  refine(HW.out _).mono ?_
  rintro e w1 ⟨⟨p1,n1,c1,rfl,hn1,hm1⟩,hb1⟩
  have HS:=Kh (signed_nm false p1 c1 n1 v w1 hm1 hn1 (by have:=HN2.out;omega))
  have HB1:=Kh hb1
  clear hn1 hm1 hb1 HW
  go_wp2_with fail
  refine HS.out.mono ?_
  rintro e w2 ⟨⟨s2,p2,n2,c2,rfl,hz2⟩,hb2⟩
  have hb02:Below w0.heap.size w0 w2:=HB1.out.trans (hb2.mono HB1.out.size)
  obtain⟨u0,hu0⟩:∃ u,w2.cell? ⟨w.heap.size,0,none⟩=some u:=by
   rw[hb02.cell (p:=⟨w.heap.size,0,none⟩) HT.out.1];exact Option.isSome_iff_exists.1 HX0.out
  obtain⟨u1,hu1⟩:∃ u,w2.cell? ⟨w.heap.size,1,none⟩=some u:=by
   rw[hb02.cell (p:=⟨w.heap.size,1,none⟩) HT.out.1];exact Option.isSome_iff_exists.1 HX1.out
  have f0:=frozen_keep hb02 HX0.out (HF.out 0)
  have f1:=frozen_keep hb02 HX1.out (HF.out 1)
  have hz3:=hz2.put2 (HT.out.next hb02) 0 1 (.bool s2) (.slice p2 n2 c2) (NotInt.bool _)
  have hb3:Below w.heap.size w ((w2.setCell ⟨w.heap.size,0,none⟩ (.bool s2)).setCell ⟨w.heap.size,1,none⟩ (.slice p2 n2 c2)):=((HB.out.trans (hb02.mono HB.out.size)).setCell (Nat.le_refl _) _).setCell (Nat.le_refl _) _
  have HZ3:=Kh hz3
  have HB3:=Kh hb3
  clear hz2 hb2 hb02 hz3 hb3 HS HB1
  go_wp2
  try simp only[Exit.inBlock,Exit.then]
  refine bodyPost_ret (by simp[results,Tryz.results83,go_sem,hu0,hu1];try rfl) rfl ?_
  exact⟨⟨s2,p2,n2,c2,rfl,HZ.out▸HZ3.out⟩,HB3.out⟩
structure Var2 (w:World) (R:Nat):Prop where
 some0:(w.cell? ⟨R,0,none⟩).isSome=true
 some1:(w.cell? ⟨R,1,none⟩).isSome=true
 free:∀ i,w.frozen? ⟨R,i,none⟩=false
 sts:Sts w R
theorem Var2.of {w:World} {R:Nat} {t:TypeId} {a b:Value} (h:Blk w R t #[a,b]) (ha:NotInt a) (hb:NotInt b):Var2 w R:=
 ⟨by rw[h.at_ 0 rfl];rfl,by rw[h.at_ 1 rfl];rfl,fun i=>h.free_ i,Sts.of h (by intro v hv;simp at hv;rcases hv with rfl|rfl;exact ha;exact hb)⟩
theorem Var2.next {w w':World} {R:Nat} (h:Var2 w R) (hb:Below w.heap.size w w'):Var2 w' R:=by
 have e0:=hb.cell (p:=⟨R,0,none⟩) h.sts.1
 have e1:=hb.cell (p:=⟨R,1,none⟩) h.sts.1
 refine⟨by rw[e0];exact h.some0,by rw[e1];exact h.some1,fun i=>?_,h.sts.next hb⟩
 have e:w'.heap[R]?=w.heap[R]?:=hb.block R h.sts.1
 have:=h.free i
 unfold World.frozen? at this ⊢
 rw[e];exact this
theorem Var2.cells {w:World} {R:Nat} (h:Var2 w R):(∃ u,w.cell? ⟨R,0,none⟩=some u)∧∃ u,w.cell? ⟨R,1,none⟩=some u:=⟨Option.isSome_iff_exists.1 h.some0,Option.isSome_iff_exists.1 h.some1⟩
theorem c_add (s:Bool) (p:Option Addr) (n c:Nat) (x:Int) (t:Bool) (q:Option Addr) (m d v:Nat) (w:World) (h:Zr w s p n c x) (h':Nm w q d v) (hm':nd v=m) (hn:n≤17592186044400) (hm:m≤17592186044400):
  Calls Tryz.prog 130 #[.agg #[.bool s,.slice p n c],.bool t,.slice q m d] w fun e w'=>RetZ w' e (x+sg t v)∧Below w.heap.size w w':=by
 obtain⟨k,hk,hk2,HL⟩:=h.letters (by omega)
 obtain⟨u,hu⟩:∃ u,x.natAbs=u:=⟨_,rfl⟩
 rw[hu]at HL hk2
 have hP:=fun w1 (hb:Below w.heap.size w w1)=>c_plus p c (nd u) (dg u) q d (nd v) (dg v) w1 (HL.out.2.1.keep hb) (h'.keep hb) (by omega) (by omega)
 have hC:=fun w1 (hb:Below w.heap.size w w1)=>c_compare p c u q d v w1 (HL.out.2.1.keep hb) (h'.keep hb) (by omega) (by omega)
 have hL1:=fun(hle:v≤u) w1 (hb:Below w.heap.size w w1)=>c_less p c (nd u) (dg u) q d (nd v) (dg v) w1 (HL.out.2.1.keep hb) (h'.keep hb) (by omega) (nd_mono hle) (by rw[vf_nd,vf_nd];exact hle)
 have hL2:=fun(hle:u≤v) w1 (hb:Below w.heap.size w w1)=>c_less q d (nd v) (dg v) p c (nd u) (dg u) w1 (h'.keep hb) (HL.out.2.1.keep hb) (by omega) (nd_mono hle) (by rw[vf_nd,vf_nd];exact hle)
 have hvu:vf (dg u) k=u:=by rw[← hk2,vf_nd]
 have hvv:vf (dg v) m=v:=by rw[← hm',vf_nd]
 simp only[hk2,hm',hvu,hvv]at hP hC hL1 hL2
 have HX:=Kh HL.out.1
 have HT:=Kh HL.out.2.2
 have HP:=Kh hP
 have HC:=Kh hC
 have HL1:=Kh hL1
 have HL2:=Kh hL2
 clear hP hC hL1 hL2 HL h h' hk2 hm' hu hvu hvv
 go_enter Tryz.func130,Tryz.ntmps130
 go_wp2_with fail
 obtain⟨w0,hw0,X0,X1,hb0⟩:=bx2 w #[.bool s,.slice p n c] 84 #[.bool false,.slice none 0 0] 84
 rw[hw0]
 have hs0:w.heap.size≤w0.heap.size:=hb0.size
 clear hw0
 have HVR:=Kh (Var2.of X1 (NotInt.bool _) (NotInt.slice _ _ _))
 have A0:=X0.at_ 0 rfl
 have A1:=X0.at_ 1 rfl
 refine(HT.out _ hb0).mono ?_
 rintro e w1 ⟨rfl,rfl⟩
 have HB0:=Kh hb0
 have HA0:=Kh X0
 have HA1:=Kh X1
 clear X0 X1 HT hb0
 by_cases hst:s=t
 ·subst hst
  have HV:=Kh (show sg s (u+v)=x+sg s v by rw[← HX.out,sg_same])
  clear HC HL1 HL2
  go_wp2_with fail
  refine(HP.out _ HB0.out).mono ?_
  rintro e w1 ⟨⟨p1,c1,r1,rfl,hd1,hv1⟩,hb1⟩
  have HS:=c_signed s p1 c1 _ r1 w1 hd1 (by omega)
  rw[hv1]at HS
  replace HS:=Kh HS
  have HB1:=bt HB0 hb1
  have HV1:=Kh (HVR.out.next hb1)
  clear hd1 hv1 hb1 HP HB0 HVR A0 A1 HA0 HA1
  go_wp2_with fail
  refine HS.out.mono ?_
  rintro e w2 ⟨⟨s2,p2,n2,c2,rfl,hz2⟩,hb2⟩
  have HB2:=bt HB1 hb2
  have HVR:=Kh (HV1.out.next hb2)
  clear hb2 HS HB1 HV1
  obtain⟨⟨u0,hu0⟩,⟨u1,hu1⟩⟩:=HVR.out.cells
  have f0:=HVR.out.free 0
  have f1:=HVR.out.free 1
  have hz3:=hz2.put2 HVR.out.sts 0 1 (.bool s2) (.slice p2 n2 c2) (NotInt.bool _)
  have hb3:Below w.heap.size w ((w2.setCell ⟨w.heap.size+1,0,none⟩ (.bool s2)).setCell ⟨w.heap.size+1,1,none⟩ (.slice p2 n2 c2)):=(HB2.out.setCell (by show w.heap.size≤w.heap.size+1;omega) _).setCell (by show w.heap.size≤w.heap.size+1;omega) _
  have HZ3:=Kh hz3
  have HB3:=Kh hb3
  clear hz2 hz3 hb3
  go_wp2
  try simp only[Exit.inBlock,Exit.then]
  refine bodyPost_ret (by simp[results,Tryz.results130,go_sem,hu0,hu1];try rfl) rfl ?_
  exact⟨⟨s2,p2,n2,c2,rfl,HV.out▸HZ3.out⟩,HB3.out⟩
 ·obtain rfl:t = !s:=by cases s <;> cases t <;> simp_all
  have hsb:(s == !s)=false:=by cases s <;> rfl
  clear hst
  by_cases hle:v≤u
  ·obtain⟨g,hg⟩:=cmp_ge hle
   have HV:=Kh (show sg s (u - v)=x+sg (!s) v by rw[← HX.out,sg_less _ _ _ hle])
   have hC:=HC.out
   rw[hg]at hC
   replace HC:=Kh hC
   replace HL1:=Kh (HL1.out hle)
   have hgd:decide ((0:Int)≤(g:Int))=true:=decide_eq_true (by omega)
   clear hC hg hle HL2 HP
   go_wp2_with fail
   refine(HC.out _ HB0.out).mono ?_
   rintro e w1 ⟨rfl,hq⟩
   have hbq:=quiet_below hq
   have X0:=bk HA0 hbq
   have X1:=bk HA1 hbq
   have hb0:=HB0.out.trans (hbq.mono HB0.out.size)
   replace hs0:w.heap.size≤w1.heap.size:=hb0.size
   clear hq hbq HA0 HA1 HB0 HVR A0 A1 HC
   go_upto_region 5 with(fail)
   have T1:=Sts.of X1 (by intro v hv;simp at hv;rcases hv with rfl|rfl <;> first|exact NotInt.bool _|exact NotInt.slice _ _ _)
   have hS0:=S2_2_next (Below.refl _ w1).drew ⟨X0.c0,X0.c1,X1.so 0,X1.free_ 0,T1,X1.so 1,X1.free_ 1,T1,hb0,hs0⟩
   clear X0 X1
   go_region_held3 (fun w1=>w1.cell? ⟨w.heap.size,0,none⟩=some (.bool s)∧w1.cell? ⟨w.heap.size,1,none⟩=some (.slice p n c)∧w1.cell? ⟨w.heap.size+1,0,none⟩=some (cellOf w1 ⟨w.heap.size+1,0,none⟩)∧w1.frozen? ⟨w.heap.size+1,0,none⟩=false∧Sts w1 (w.heap.size+1)∧w1.cell? ⟨w.heap.size+1,1,none⟩=some (cellOf w1 ⟨w.heap.size+1,1,none⟩)∧w1.frozen? ⟨w.heap.size+1,1,none⟩=false∧Sts w1 (w.heap.size+1)∧Below w.heap.size w w1∧w.heap.size≤w1.heap.size)
    (first|with_reducible exact hS0 |(refine S2_2_next (by with_reducible assumption) ?_;assumption) |(refine S2_2_put ?_ ?_ ?_ ?_ ?_ ?_ ?_ ?_ ?_ <;> first|assumption|exact NotInt.bool _|exact NotInt.slice _ _ _ |(dsimp only;omega) |(simp;done)))
    (first
     |(go_at_call 168;refine(HL1.out _ (S2_2_below (by with_reducible assumption))).mono ?_;rintro e w2 ⟨⟨p1,c1,r1,rfl,hd1,hv1⟩,hb1⟩;have HS:=c_signed s p1 c1 _ r1 w2 hd1 (by omega);rw[hv1]at HS;replace HS:=Kh HS;clear hd1 hv1)
     |(go_at_call 131;refine HS.out.mono ?_;rintro e w3 ⟨⟨s2,p2,n2,c2,rfl,hz2⟩,hb2⟩;clear hb1;obtain⟨⟨hR0,hT⟩,⟨hR1,_⟩⟩:=S2_2_end hb2 (by with_reducible assumption);have hz3:=hz2.put2 hT 0 1 (.bool s2) (.slice p2 n2 c2) (NotInt.bool _);replace hz3:=Kh hz3;clear hz2 hT))
   go_wp2
   try simp only[Exit.inBlock,Exit.then]
   refine bodyPost_ret (by simp[results,Tryz.results130,go_sem,hR0,hR1];try rfl) rfl ?_
   exact⟨⟨s2,p2,n2,c2,rfl,HV.out▸hz3.out⟩,S2_2_below (by assumption)⟩
  ·have hlt:u<v:=by omega
   have HV:=Kh (show sg (!s) (v - u)=x+sg (!s) v by rw[← HX.out,sg_more _ _ _ (Nat.le_of_lt hlt)])
   have hC:=HC.out
   rw[cmp_lt hlt]at hC
   replace HC:=Kh hC
   replace HL2:=Kh (HL2.out (Nat.le_of_lt hlt))
   clear hC hlt hle HL1 HP
   go_wp2_with fail
   refine(HC.out _ HB0.out).mono ?_
   rintro e w1 ⟨rfl,hq⟩
   have hbq:=quiet_below hq
   have HB1:=bt HB0 hbq
   have HV1:=Kh (HVR.out.next hbq)
   clear hq hbq HA0 HA1 HB0 HVR A0 A1 HC
   go_wp2_with fail
   refine(HL2.out _ HB1.out).mono ?_
   rintro e w3 ⟨⟨p1,c1,r1,rfl,hd1,hv1⟩,hb1⟩
   have HS:=c_signed (!s) p1 c1 _ r1 w3 hd1 (by omega)
   rw[hv1]at HS
   replace HS:=Kh HS
   have HB3':=bt HB1 hb1
   have HV3:=Kh (HV1.out.next hb1)
   clear hd1 hv1 hb1 HB1 HV1 HL2
   go_wp2_with fail
   refine HS.out.mono ?_
   rintro e w2 ⟨⟨s2,p2,n2,c2,rfl,hz2⟩,hb2⟩
   have HB2:=Kh (HB3'.out.trans (hb2.mono HB3'.out.size))
   have HVR:=Kh (HV3.out.next hb2)
   clear hb2 HS HB3' HV3
   obtain⟨⟨u0,hu0⟩,⟨u1,hu1⟩⟩:=HVR.out.cells
   have f0:=HVR.out.free 0
   have f1:=HVR.out.free 1
   have hz3:=hz2.put2 HVR.out.sts 0 1 (.bool s2) (.slice p2 n2 c2) (NotInt.bool _)
   have hb3:Below w.heap.size w ((w2.setCell ⟨w.heap.size+1,0,none⟩ (.bool s2)).setCell ⟨w.heap.size+1,1,none⟩ (.slice p2 n2 c2)):=(HB2.out.setCell (by show w.heap.size≤w.heap.size+1;omega) _).setCell (by show w.heap.size≤w.heap.size+1;omega) _
   have HZ3:=Kh hz3
   have HB3:=Kh hb3
   clear hz2 hz3 hb3
   go_wp2
   try simp only[Exit.inBlock,Exit.then]
   refine bodyPost_ret (by simp[results,Tryz.results130,go_sem,hu0,hu1];try rfl) rfl ?_
   exact⟨⟨s2,p2,n2,c2,rfl,HV.out▸HZ3.out⟩,HB3.out⟩
theorem c_Add (s:Bool) (p:Option Addr) (n c:Nat) (x:Int) (t:Bool) (q:Option Addr) (m d:Nat) (y:Int) (w:World) (h:Zr w s p n c x) (h':Zr w t q m d y) (hn:n≤17592186044400) (hm:m≤17592186044400):
  Calls Tryz.prog 82 #[.agg #[.bool s,.slice p n c],.agg #[.bool t,.slice q m d]] w fun e w'=>RetZ w' e (x+y)∧Below w.heap.size w w':=by
 obtain⟨l,hl,hl2,KL⟩:=h'.letters (by omega)
 have hC:=fun w1 (hb:Below w.heap.size w w1)=>c_add s p n c x t q l d y.natAbs w1 (h.keep hb) (KL.out.2.1.keep hb) hl2 hn (by omega)
 rw[KL.out.1]at hC
 have HC:=Kh hC
 clear hC hl2 h h'
 go_enter Tryz.func82,Tryz.ntmps82
 go_upto_region 1 with(fail)
 obtain⟨w0,hw0,X0,X1,X2,hb0⟩:=bx3 w #[.bool s,.slice p n c] 84 #[.bool t,.slice q m d] 84 #[.bool false,.slice none 0 0] 84
 rw[hw0]
 have hs0:w.heap.size≤w0.heap.size:=hb0.size
 clear hw0
 have T2:=Sts.of X2 (by intro v hv;simp at hv;rcases hv with rfl|rfl <;> first|exact NotInt.bool _|exact NotInt.slice _ _ _)
 have hS0:=S4_2_next (Below.refl _ w0).drew ⟨X0.c0,X0.c1,X1.c0,X1.c1,X2.so 0,X2.free_ 0,T2,X2.so 1,X2.free_ 1,T2,hb0,hs0⟩
 clear X0 X1 X2
 go_region_held3 (fun w1=>w1.cell? ⟨w.heap.size,0,none⟩=some (.bool s)∧w1.cell? ⟨w.heap.size,1,none⟩=some (.slice p n c)∧w1.cell? ⟨w.heap.size+1,0,none⟩=some (.bool t)∧w1.cell? ⟨w.heap.size+1,1,none⟩=some (.slice q m d)∧w1.cell? ⟨w.heap.size+1+1,0,none⟩=some (cellOf w1 ⟨w.heap.size+1+1,0,none⟩)∧w1.frozen? ⟨w.heap.size+1+1,0,none⟩=false∧Sts w1 (w.heap.size+1+1)∧w1.cell? ⟨w.heap.size+1+1,1,none⟩=some (cellOf w1 ⟨w.heap.size+1+1,1,none⟩)∧w1.frozen? ⟨w.heap.size+1+1,1,none⟩=false∧Sts w1 (w.heap.size+1+1)∧Below w.heap.size w w1∧w.heap.size≤w1.heap.size)
  (first|with_reducible exact hS0 |(refine S4_2_next (by with_reducible assumption) ?_;assumption) |(refine S4_2_put ?_ ?_ ?_ ?_ ?_ ?_ ?_ ?_ ?_ ?_ ?_ ?_ ?_ <;> first|assumption|exact NotInt.bool _|exact NotInt.slice _ _ _ |(dsimp only;omega) |(simp;done)))
  (first
   |(go_at_call 129;refine(KL.out.2.2 _ (S4_2_below (by with_reducible assumption))).mono ?_;rintro e w' ⟨rfl,rfl⟩)
   |(go_at_call 130;refine(HC.out _ (S4_2_below (by with_reducible assumption))).mono ?_;rintro e w3 ⟨⟨s2,p2,n2,c2,rfl,hz2⟩,hb2⟩;obtain⟨⟨hR0,hT⟩,⟨hR1,_⟩⟩:=S4_2_end hb2 (by with_reducible assumption);have hz3:=hz2.put2 hT 0 1 (.bool s2) (.slice p2 n2 c2) (NotInt.bool _);replace hz3:=Kh hz3;clear hz2 hT))
 go_wp2
 try simp only[Exit.inBlock,Exit.then]
 refine bodyPost_ret (by simp[results,Tryz.results82,go_sem,hR0,hR1];try rfl) rfl ?_
 exact⟨⟨s2,p2,n2,c2,rfl,hz3.out⟩,S4_2_below (by assumption)⟩
end Go.Proofs.YtenlbhlllgppmaaGreatDoor
