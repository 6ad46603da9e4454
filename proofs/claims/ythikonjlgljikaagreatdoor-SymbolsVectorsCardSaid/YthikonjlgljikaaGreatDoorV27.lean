/- Contract of paths.substitute. -/
import Derived.Test.YthikonjlgljikaaGreatDoorV25
import Derived.Test.YthikonjlgljikaaGreatDoorV12
set_option linter.unusedSimpArgs false
set_option maxRecDepth 100000
set_option maxHeartbeats 8000000
namespace Go.Proofs.YthikonjlgljikaaGreatDoor
open Go.RowKit
/-! Everything but one block stays -/
theorem but_below {w w':World} (g:Nat) (h:Below w.heap.size w w'):w.grownBy w' (some g):=⟨h.os,h.tape,h.output,h.size,fun k hk _=>h.block k hk⟩
theorem but_put (w:World) (g i:Nat) (v:Value):w.grownBy (w.setCell ⟨g,i,none⟩ v) (some g):=
 ⟨rfl,rfl,rfl,by simp,fun k hk hne=>Below.heap_setCell w ⟨g,i,none⟩ v k (fun e=>hne (by rw[e]))⟩
theorem but_put4 (w:World) (g i j k l:Nat) (v0 v1 v2 v3:Value):w.grownBy ((((w.setCell ⟨g,i,none⟩ v0).setCell ⟨g,j,none⟩ v1).setCell ⟨g,k,none⟩ v2).setCell ⟨g,l,none⟩ v3) (some g):=
 (((but_put w g i v0).trans (but_put _ g j v1)).trans (but_put _ g k v2)).trans (but_put _ g l v3)
theorem I32.but {w w':World} {g:Nat} (hs:Sts w g) (h:w.grownBy w' (some g)):I32 w w':=
 ⟨h.size,fun g' i n e=>h.cell e (fun e2=>by
  injection e2 with e2
  exact hs.2 i _ (by rw[← e2];exact e) _ _ rfl)⟩
theorem QE.but {P:FP} (hP:Solid P) {w w':World} {g g' i:Nat} (hs:Sts w g) (h:w.grownBy w' (some g)) (hne:g'≠g) (hq:QE P w g' i):QE P w' g' i:=by
 obtain⟨s,p,n,c,t,q,m,d,h0,h1,h2,h3,h4⟩:=hq
 have hk:∀ j v,w.cell? ⟨g',j,none⟩=some v→w'.cell? ⟨g',j,none⟩=some v:=fun j v e=>h.cell e (fun e2=>by injection e2 with e2;exact hne e2)
 exact⟨s,p,n,c,t,q,m,d,hk _ _ h0,hk _ _ h1,hk _ _ h2,hk _ _ h3,hP _ _ _ _ _ _ _ _ _ _ (I32.but hs h) h4⟩
def PL (g:Nat) (f:Nat→Rat) (w:World) (v:Value) (n:Nat):Prop:=∃ g' cap,v=.slice (some ⟨g',0,none⟩) n cap∧g<g'∧g'<w.heap.size∧∀ j,j<n→QE (IsQ (f j)) w g' (j*4)
theorem PL.keep {g:Nat} {f:Nat→Rat} {w w':World} {v:Value} {n:Nat} (h:PL g f w v n) (hb:Below w.heap.size w w'):PL g f w' v n:=by
 obtain⟨g',cap,e,h1,h2,h3⟩:=h
 exact⟨g',cap,e,h1,Nat.lt_of_lt_of_le h2 hb.size,fun j hj=>(h3 j hj).keep (IsQ.solid _) hb⟩
theorem PL.but {g:Nat} {f:Nat→Rat} {w w':World} {v:Value} {n:Nat} (h:PL g f w v n) (hs:Sts w g) (hb:w.grownBy w' (some g)):PL g f w' v n:=by
 obtain⟨g',cap,e,h1,h2,h3⟩:=h
 exact⟨g',cap,e,h1,Nat.lt_of_lt_of_le h2 hb.size,fun j hj=>(h3 j hj).but (IsQ.solid _) hs hb (by omega)⟩
theorem PL.ql {g:Nat} {f:Nat→Rat} {w:World} {v:Value} {n:Nat} (h:PL g f w v n):QL (fun j=>IsQ (f j)) w v n:=by
 obtain⟨g',cap,e,h1,h2,h3⟩:=h
 exact .inr ⟨g',0,cap,e,h2,fun j hj=>by rw[Nat.zero_add];exact h3 j hj⟩
theorem PL.congr {g:Nat} {f f':Nat→Rat} {w:World} {v:Value} {n:Nat} (h:PL g f w v n) (e:∀ j,j<n→f j=f' j):PL g f' w v n:=by
 obtain⟨g',cap,e',h1,h2,h3⟩:=h
 exact⟨g',cap,e',h1,h2,fun j hj=>by rw[← e j hj];exact h3 j hj⟩
theorem below_but {B:Nat} {b w w':World} {g:Nat} (h:Below B b w) (hg:w.grownBy w' (some g)) (h1:B≤w.heap.size) (h2:B≤g):Below B b w':=h.grown hg h1 (fun k hk=>by injection hk with hk;omega)
theorem nd64 {a:Int} (h:-1073741824≤a) (h':a≤1073741824):nd a.natAbs≤2:=nd_le.2 (show a.natAbs<4294967296 ^ 2 by omega)
/-! The values -/
def tm (a b:Int) (f:Nat→Int) (k j:Nat):Int:=(if 0<j∧j≤k then f (j - 1)*a else 0)+(if j<k then f j*b else 0)
def tm5 (a b:Int) (f:Nat→Int) (k j:Nat):Int:=if j=k then tm a b f k k+f k*b else tm a b f k j
theorem tm_zero (a b:Int) (f:Nat→Int) (j:Nat):tm a b f 0 j=0:=by
 unfold tm;rw[if_neg (by omega),if_neg (by omega)];rfl
theorem tm5_far {a b:Int} {f:Nat→Int} {k j:Nat} (h:j≠k):tm a b f k j=tm5 a b f k j:=by unfold tm5;rw[if_neg h]
theorem tm5_at (a b:Int) (f:Nat→Int) (k:Nat):tm5 a b f k k=tm a b f k k+f k*b:=by unfold tm5;rw[if_pos rfl]
theorem tm_far {a b:Int} {f:Nat→Int} {k j:Nat} (h:j≠k+1):tm5 a b f k j=tm a b f (k+1) j:=by
 unfold tm5
 by_cases h1:j=k
 ·subst h1
  rw[if_pos rfl]
  unfold tm
  rw[if_neg (Nat.lt_irrefl j),if_pos (Nat.lt_succ_self j)]
  by_cases h2:0<j
  ·rw[if_pos ⟨h2,Nat.le_refl _⟩,if_pos ⟨h2,by omega⟩];omega
  ·rw[if_neg (by omega),if_neg (by omega)];omega
 ·rw[if_neg h1]
  unfold tm
  by_cases h2:j<k
  ·rw[if_pos h2,if_pos (show j<k+1 by omega)]
   by_cases h3:0<j
   ·rw[if_pos ⟨h3,by omega⟩,if_pos ⟨h3,by omega⟩]
   ·rw[if_neg (by omega),if_neg (by omega)]
  ·rw[if_neg h2,if_neg (show ¬ j<k+1 by omega),if_neg (by omega),if_neg (by omega)]
theorem tm_at (a b:Int) (f:Nat→Int) (k:Nat):tm a b f (k+1) (k+1)=tm5 a b f k (k+1)+f k*a:=by
 unfold tm5
 rw[if_neg (by omega)]
 unfold tm
 rw[if_pos ⟨Nat.succ_pos k,Nat.le_refl _⟩,if_neg (Nat.lt_irrefl _),if_neg (show ¬ (0<k+1∧k+1≤k)by omega),if_neg (show ¬ k+1<k by omega),Nat.add_sub_cancel]
 omega
theorem tm_all {a b:Int} {f:Nat→Int} {n j:Nat} (h:j≤n) (hz:f n=0):tm a b f n j=lin a b f j:=by
 unfold tm lin
 by_cases h1:0<j
 ·rw[if_pos ⟨h1,h⟩,if_pos h1,Int.mul_comm]
  by_cases h2:j<n
  ·rw[if_pos h2,Int.mul_comm (f j)]
  ·obtain rfl:j=n:=by omega
   rw[if_neg h2,hz,Int.mul_zero]
 ·rw[if_neg (by omega),if_neg h1]
  by_cases h2:j<n
  ·rw[if_pos h2,Int.mul_comm]
  ·obtain rfl:j=n:=by omega
   rw[if_neg h2,hz,Int.mul_zero]
theorem nd_mul1 {x a:Int} {K:Nat} (hx:nd x.natAbs≤K) (ha:nd a.natAbs≤2):nd (x*a).natAbs≤K+2:=by
 rw[Int.natAbs_mul];have:=nd_mul x.natAbs a.natAbs;omega
theorem tm_size {a b:Int} {f:Nat→Int} {K:Nat} (hf:∀ j,nd (f j).natAbs≤K) (ha:nd a.natAbs≤2) (hb:nd b.natAbs≤2) (k j:Nat):nd (tm a b f k j).natAbs≤K+3:=by
 unfold tm
 refine nd_add_int _ _ (K:=K+2) ?_ ?_
 ·split
  ·exact nd_mul1 (hf _) ha
  ·simp[nd_zero]
 ·split
  ·exact nd_mul1 (hf _) hb
  ·simp[nd_zero]
theorem tm5_size {a b:Int} {f:Nat→Int} {K:Nat} (hf:∀ j,nd (f j).natAbs≤K) (ha:nd a.natAbs≤2) (hb:nd b.natAbs≤2) (k j:Nat):nd (tm5 a b f k j).natAbs≤K+4:=by
 unfold tm5
 split
 ·refine nd_add_int _ _ (K:=K+3) (tm_size hf ha hb k k) ?_
  have:=nd_mul1 (hf k) hb;omega
 ·have:=tm_size hf ha hb k j;omega
theorem intRow:(Tryz.prog.info? 3).map (fun i=>(i.zero,i.size,i.bytes))=some (some (.int .i64 0),1,8):=by kernel_rfl
theorem makeI (n:Nat) (h:n≤1000000) (w:World):
  (Instr.makeSlice 49 (.int .i64 (n:Int)) (.int .i64 (n:Int))).run Tryz.prog w=.ok (.slice (some ⟨w.heap.size,0,none⟩) n n) (w.alloc (.cells (madeCells #[.int .i64 0] n) 3)):=
 run_make_row' 49 3 (.int .i64 0) 8 Tryz.underlying49 intRow rfl .i64 .i64 n (by omega) (by omega) w
theorem ZE.but {z:Int} {w w':World} {g g' i:Nat} (hs:Sts w g) (h:w.grownBy w' (some g)) (hne:g'≠g) (hq:ZE z w g' i):ZE z w' g' i:=by
 obtain⟨s,p,n,c,h0,h1,h4⟩:=hq
 have hk:∀ j v,w.cell? ⟨g',j,none⟩=some v→w'.cell? ⟨g',j,none⟩=some v:=fun j v e=>h.cell e (fun e2=>by injection e2 with e2;exact hne e2)
 exact⟨s,p,n,c,hk _ _ h0,hk _ _ h1,h4.i32 (I32.but hs h)⟩
def Cells2 (w:World) (g i:Nat) (s:Bool) (p:Option Addr) (n c:Nat):Prop:=w.cell? ⟨g,i,none⟩=some (.bool s)∧w.cell? ⟨g,i+1,none⟩=some (.slice p n c)
theorem Cells2.keep {w w':World} {g i:Nat} {s:Bool} {p:Option Addr} {n c:Nat} (h:Cells2 w g i s p n c) (hb:Below w.heap.size w w'):Cells2 w' g i s p n c:=by
 have hk:∀ j v,w.cell? ⟨g,j,none⟩=some v→w'.cell? ⟨g,j,none⟩=some v:=fun j v e=>(hb.cell (p:=⟨g,j,none⟩) (World.block_lt_of_cell? w ⟨g,j,none⟩ e)).trans e
 exact⟨hk _ _ h.1,hk _ _ h.2⟩
theorem but_put2 (w:World) (g i j:Nat) (v0 v1:Value):w.grownBy ((w.setCell ⟨g,i,none⟩ v0).setCell ⟨g,j,none⟩ v1) (some g):=(but_put w g i v0).trans (but_put _ g j v1)
theorem c_times40 (v:Value) (n:Nat) (f:Nat→Int) (a b:Int) (K:Nat) (w:World) (h:ZL f w v n) (h0:0<n) (hn:n≤1000) (ha:-1073741824≤a) (ha':a≤1073741824) (hb:-1073741824≤b) (hb':b≤1073741824) (hf:∀ j,nd (f j).natAbs≤K) (hK:K≤1000000) (hz:f n=0):
  Calls Tryz.prog 203 #[v,.int .i64 a,.int .i64 b] w fun e w'=>(∃ g cap,e=.returned (.slice (some ⟨g,0,none⟩) ((n+1:Nat)) cap)∧w.heap.size≤g∧ZRow (lin a b f) w' g (n+1) (n+1))∧Below w.heap.size w w':=by
 obtain⟨g1,o1,l1,rfl,hg1,r1⟩:=h.resolve_left (fun h=>by omega)
 have HR:=Kh r1
 have HF:=Kh hf
 have HZ0:=Kh hz
 have HNA:=Kh (nd64 ha ha')
 have HNB:=Kh (nd64 hb hb')
 have HZA:=Kh (fun w1=>c_Z a w1 (by omega) (by omega))
 have HZB:=Kh (fun w1=>c_Z b w1 (by omega) (by omega))
 obtain⟨N,hN⟩:∃ N,n+1=N:=⟨_,rfl⟩
 have hNi:(n:Int)+1=(N:Nat):=by omega
 have hmk:=makeI N (by omega)
 rw[hN]
 clear h r1 hf ha ha' hb hb' hz
 go_enter Tryz.func203,Tryz.ntmps203
 go_wp2_with fail
 have hrow:=World.rowIs_made w (.int .i64 0) N 3
 obtain⟨wn,hwn⟩:∃ wn,w.alloc (.cells (madeCells #[.int .i64 0] N) 3)=wn:=⟨_,rfl⟩
 rw[hwn]at hrow ⊢
 have hbn:Below w.heap.size w wn:=hwn▸(Below.refl _ _).alloc (Nat.le_refl _) _
 have HBN:=Kh hbn
 have HZS:=Kh (c_Zs w.heap.size N N (fun _=>0) wn hrow.lt (fun j hj=>hrow.cell hj) (fun _ _=>by omega) (by omega))
 clear hrow hbn hwn
 refine HZS.out.mono ?_
 rintro e w2 ⟨⟨v2,rfl,ho⟩,hb2⟩
 obtain⟨g,cap,rfl,hgB,hro⟩:=ho.row.resolve_left (fun h=>by omega)
 have HBW2:=bt HBN hb2
 have hgw:w.heap.size≤g:=Nat.le_trans HBN.out.size hgB
 have HR2:=Kh (fun j (hj:j<n)=>ZE.keep (HR.out j hj) HBW2.out)
 have HST:=Kh hro.sts
 have HRO:=Kh (hro.congr (f':=tm a b f 0) (fun j _=>(tm_zero a b f j).symm))
 have hg1l:g1<g:=by omega
 clear hb2 ho HR HZS HBN hgB hro
 go_wp2
 go_loopw [8] (fun i wr=>∃ k:Nat,k≤n∧i=.int .i64 k∧ZRow (tm a b f k) wr g N N∧w2.grownBy wr (some g)) (fun i _=>n - (intOf i).toNat)
 case atStart=>exact⟨0,Nat.zero_le _,rfl,HRO.out,but_below g (Below.refl _ _)⟩
 case round=>
  obtain⟨k,hk,rfl,hrow,hbu⟩:=hrel
  have HROW:=Kh hrow
  have HBU:=Kh hbu
  have HBW:=Kh (below_but HBW2.out hbu HBW2.out.size hgw)
  by_cases hlt:k<n
  ·obtain⟨s',p',i',c',a0,a1,hx⟩:=(HR2.out k hlt).but HST.out hbu (by omega)
   have HXE:=Kh hx
   obtain⟨s5,p5,n5,c5,e0,e1,hy⟩:=hrow.val k (by omega)
   have HYE:=Kh hy
   have HZC:=HZB
   have hki:(k:Int)<(n:Int):=by omega
   have hkN:(k:Int)<(N:Int):=by omega
   have hra:=hrow
   clear hrow hbu hx hy
   go_upto_region 5 with(fail)
   go_cut []from 20 to 34 (fun wd=>ZRow (tm5 a b f k) wd g N N∧w2.grownBy wd (some g))
   case first=>
    refine rgB (fun W=>W.cell? ⟨g1,o1+k*2,none⟩=some (.bool s')∧W.cell? ⟨g1,o1+k*2+1,none⟩=some (.slice p' i' c')∧W.cell? ⟨g,k*2,none⟩=some (.bool s5)∧W.frozen? ⟨g,k*2,none⟩=false∧W.cell? ⟨g,k*2+1,none⟩=some (.slice p5 n5 c5)∧W.frozen? ⟨g,k*2+1,none⟩=false) (fun W hb=>⟨cnx hb a0,cnx hb a1,cnx hb e0,frozen_keep hb (by rw[e0];rfl) (hra.free _ (by omega)),cnx hb e1,frozen_keep hb (by rw[e1];rfl) (hra.free _ (by omega))⟩) (fun HSE hHeld0=>?_)
    clear a0 a1 e0 e1 hra
    refine tkE 0 ?_;refine tkE 1 ?_;refine tkE 2 ?_;refine tkE 3 ?_;refine tkE 4 ?_;refine tkE 5 ?_;refine tkE 6 ?_;refine tkE 7 ?_;refine tkE 8 ?_;refine tkE 9 ?_;refine tkE 10 ?_
    refine stE 11 rfl (fun K hK=>?_)
    focus(go_simp;refine(HZC.out _).mono ?_;rintro e w2 ⟨⟨s2,p2,n2,c2,rfl,hz2⟩,hb2⟩;have HB2:=Kh ((Below.refl _ wr).drew.trans hb2:Below wr.heap.size wr w2);have HZ2:=Kh hz2;clear hz2 hb2;(first|with_reducible refine hK.out _ _ ?_ (fun hHeld1=>?_) |(go_wp2_with fail;with_reducible refine hK.out _ _ ?_ (fun hHeld1=>?_))))
    focus((try dsimp only);exact HSE.out _ HB2.out)
    focus(clear hK K;(try simp only[Act.put,lsa,lsz,lss]))
    refine stE 12 rfl (fun K hK=>?_)
    focus(go_simp;refine(c_rMul s' p' i' c' (f k) s2 p2 n2 c2 b _ (HXE.out.keep HB2.out).raw HZ2.out.raw (by rw[← HXE.out.2.1];have:=HF.out k;omega) (by rw[← HZ2.out.2.1];have:=HNB.out;omega)).mono ?_;rintro e w3 ⟨⟨s3,p3,n3,c3,rfl,hz3⟩,hb3⟩;have HB3:=bt HB2 hb3;have HZ3:=Kh hz3;clear hz3 hb3;(first|with_reducible refine hK.out _ _ ?_ (fun hHeld2=>?_) |(go_wp2_with fail;with_reducible refine hK.out _ _ ?_ (fun hHeld2=>?_))))
    focus((try dsimp only);exact HSE.out _ HB3.out)
    focus(clear hK K;(try simp only[Act.put,lsa,lsz,lss]))
    refine stE 13 rfl (fun K hK=>?_)
    focus(go_simp;refine(c_rAdd s5 p5 n5 c5 (tm a b f k k) s3 p3 n3 c3 (f k*b) _ (HYE.out.keep HB3.out).raw HZ3.out.raw (by rw[← HYE.out.2.1];have:=tm_size HF.out HNA.out HNB.out k k;omega) (by rw[← HZ3.out.2.1];have:=nd_mul1 (HF.out k) (HNB.out);omega)).mono ?_;rintro e w4 ⟨⟨s6,p6,n6,c6,rfl,hz6⟩,hb6⟩;have hbe:Below wr.heap.size wr w4:=HB3.out.trans (hb6.mono HB3.out.size);have HQA3:=Kh (ZRow.set (k':=N) (HROW.out.keep hbe) k (by omega) (tm5 a b f k) (fun j hj hne=>And.intro hj (tm5_far hne)) (show Zs w4 s6 p6 n6 c6 (tm5 a b f k k)by rw[tm5_at];exact hz6));have HGR:=Kh (HBU.out.trans (but_below g hbe));have HB4:=Kh hbe;clear hz6 hbe hb6;(first|with_reducible refine hK.out _ _ ?_ (fun hHeld3=>?_) |(go_wp2_with fail;with_reducible refine hK.out _ _ ?_ (fun hHeld3=>?_))))
    focus((try dsimp only);exact HSE.out _ HB4.out)
    focus(clear hK K;(try simp only[Act.put,lsa,lsz,lss]))
    refine tkE 14 ?_
    refine laE 15 rfl (fun K hK=>?_)
    go_simp
    refine hK.out _ _ ?_
    clear hK K
    (try simp only[Act.put,lsa,lsz,lss])
    all_goals go_wp2
    all_goals go_meet
    all_goals exact⟨HQA3.out,HGR.out.trans (but_put2 _ _ _ _ _ _)⟩
   case rest=>
    obtain⟨hrow,hbu⟩:=hcut
    clear HROW HBU HBW HXE HYE HZC a0 a1 e0 e1 hra
    obtain⟨wr,rfl⟩:∃ wr:World,wr=wc:=⟨_,rfl⟩
    have HROW:=Kh hrow
    have HBU:=Kh hbu
    have HBW:=Kh (below_but HBW2.out hbu HBW2.out.size hgw)
    obtain⟨s',p',i',c',a0,a1,hx⟩:=(HR2.out k hlt).but HST.out hbu (by omega)
    have HXE:=Kh hx
    obtain⟨k1,hk1⟩:∃ k1,k+1=k1:=⟨_,rfl⟩
    obtain⟨s5,p5,n5,c5,e0,e1,hy⟩:=hrow.val k1 (by omega)
    have HYE:=Kh hy
    have HZC:=HZA
    have hk1n:k1<N:=by omega
    have hki1:(k1:Int)<(N:Int):=by omega
    have hk1i:(k:Int)+1=(k1:Nat):=by omega
    have hkw:IntKind.i64.wrap (k1:Int)=(k1:Nat):=IntWalk.i64_in _ (by omega)
    have HK1:=Kh hk1
    have hra:=hrow
    clear hrow hbu hx hy hk1
    go_upto_region 6 with(fail)
    refine rgB (fun W=>W.cell? ⟨g1,o1+k*2,none⟩=some (.bool s')∧W.cell? ⟨g1,o1+k*2+1,none⟩=some (.slice p' i' c')∧W.cell? ⟨g,k1*2,none⟩=some (.bool s5)∧W.frozen? ⟨g,k1*2,none⟩=false∧W.cell? ⟨g,k1*2+1,none⟩=some (.slice p5 n5 c5)∧W.frozen? ⟨g,k1*2+1,none⟩=false) (fun W hb=>⟨cnx hb a0,cnx hb a1,cnx hb e0,frozen_keep hb (by rw[e0];rfl) (hra.free _ (by omega)),cnx hb e1,frozen_keep hb (by rw[e1];rfl) (hra.free _ (by omega))⟩) (fun HSE hHeld0=>?_)
    clear a0 a1 e0 e1 hra
    refine tkE 0 ?_;refine tkE 1 ?_;refine tkE 2 ?_;refine tkE 3 ?_;refine tkE 4 ?_;refine tkE 5 ?_;refine tkE 6 ?_;refine tkE 7 ?_;refine tkE 8 ?_;refine tkE 9 ?_;refine tkE 10 ?_;refine tkE 11 ?_;refine tkE 12 ?_
    refine stE 13 rfl (fun K hK=>?_)
    focus(go_simp;refine(HZC.out _).mono ?_;rintro e w2 ⟨⟨s2,p2,n2,c2,rfl,hz2⟩,hb2⟩;have HB2:=Kh ((Below.refl _ wr).drew.trans hb2:Below wr.heap.size wr w2);have HZ2:=Kh hz2;clear hz2 hb2;(first|with_reducible refine hK.out _ _ ?_ (fun hHeld1=>?_) |(go_wp2_with fail;with_reducible refine hK.out _ _ ?_ (fun hHeld1=>?_))))
    focus((try dsimp only);exact HSE.out _ HB2.out)
    focus(clear hK K;(try simp only[Act.put,lsa,lsz,lss]))
    refine stE 14 rfl (fun K hK=>?_)
    focus(go_simp;refine(c_rMul s' p' i' c' (f k) s2 p2 n2 c2 a _ (HXE.out.keep HB2.out).raw HZ2.out.raw (by rw[← HXE.out.2.1];have:=HF.out k;omega) (by rw[← HZ2.out.2.1];have:=HNA.out;omega)).mono ?_;rintro e w3 ⟨⟨s3,p3,n3,c3,rfl,hz3⟩,hb3⟩;have HB3:=bt HB2 hb3;have HZ3:=Kh hz3;clear hz3 hb3;(first|with_reducible refine hK.out _ _ ?_ (fun hHeld2=>?_) |(go_wp2_with fail;with_reducible refine hK.out _ _ ?_ (fun hHeld2=>?_))))
    focus((try dsimp only);exact HSE.out _ HB3.out)
    focus(clear hK K;(try simp only[Act.put,lsa,lsz,lss]))
    refine stE 15 rfl (fun K hK=>?_)
    focus(go_simp;refine(c_rAdd s5 p5 n5 c5 (tm5 a b f k k1) s3 p3 n3 c3 (f k*a) _ (HYE.out.keep HB3.out).raw HZ3.out.raw (by rw[← HYE.out.2.1];have:=tm5_size HF.out HNA.out HNB.out k k1;omega) (by rw[← HZ3.out.2.1];have:=nd_mul1 (HF.out k) (HNA.out);omega)).mono ?_;rintro e w4 ⟨⟨s6,p6,n6,c6,rfl,hz6⟩,hb6⟩;have hbe:Below wr.heap.size wr w4:=HB3.out.trans (hb6.mono HB3.out.size);have HQA3:=Kh (ZRow.set (k':=N) (HROW.out.keep hbe) k1 (by omega) (tm a b f (k+1)) (fun j hj hne=>And.intro hj (tm_far (by rw[HK1.out];exact hne))) (show Zs w4 s6 p6 n6 c6 (tm a b f (k+1) k1)by rw[← HK1.out,tm_at,HK1.out];exact hz6));have HGR:=Kh (HBU.out.trans (but_below g hbe));have HB4:=Kh hbe;clear hz6 hbe hb6;(first|with_reducible refine hK.out _ _ ?_ (fun hHeld3=>?_) |(go_wp2_with fail;with_reducible refine hK.out _ _ ?_ (fun hHeld3=>?_))))
    focus((try dsimp only);exact HSE.out _ HB4.out)
    focus(clear hK K;(try simp only[Act.put,lsa,lsz,lss]))
    refine tkE 16 ?_
    refine laE 17 rfl (fun K hK=>?_)
    go_simp
    refine hK.out _ _ ?_
    clear hK K
    (try simp only[Act.put,lsa,lsz,lss])
    all_goals go_wp2
    all_goals go_roundw
    all_goals first
     | exact⟨k+1,by omega,by go_num,HQA3.out,HGR.out.trans (but_put2 _ _ _ _ _ _)⟩
     |(simp[intOf];omega)
  ·obtain rfl:n=k:=by omega
   have HRN:=Kh (hrow.congr (f':=lin a b f) (fun j hj=>tm_all (by omega) HZ0.out))
   clear hrow hbu HROW
   go_wp2
   go_ret
   exact⟨⟨g,cap,rfl,hgw,HRN.out⟩,HBW.out⟩
theorem c_Moved (m i:Nat) (a b c d:Int) (w:World) (hm:m≤30) (_hi:i≤1000) (ha:-1073741824≤a) (ha':a≤1073741824) (hb:-1073741824≤b) (hb':b≤1073741824) (hc:-1073741824≤c) (hc':c≤1073741824) (hd:-1073741824≤d) (hd':d≤1073741824):
  Calls Tryz.prog 158 #[.int .i64 m,.int .i64 i,.agg #[.int .i64 a,.int .i64 b,.int .i64 c,.int .i64 d]] w fun e w'=>(∃ g cap,e=.returned (.slice (some ⟨g,0,none⟩) ((m+1:Nat)) cap)∧w.heap.size≤g∧ZRow (mv i a b c d m) w' g (m+1) (m+1))∧Below w.heap.size w w':=by
 have HAB:=Kh (And.intro (And.intro ha ha') (And.intro (And.intro hb hb') (And.intro (And.intro hc hc') (And.intro hd hd'))))
 have HN:=Kh (And.intro (nd64 ha ha') (And.intro (nd64 hb hb') (And.intro (nd64 hc hc') (nd64 hd hd'))))
 clear ha ha' hb hb' hc hc' hd hd'
 go_enter Tryz.func158,Tryz.ntmps158
 go_wp2_with fail
 obtain⟨X0,X1,hb0⟩:=box2 w #[.int .i64 a,.int .i64 b,.int .i64 c,.int .i64 d] 97 #[.int .i64 1] 3
 obtain⟨w0,hw0⟩:∃ w0,(w.alloc (.cells #[.int .i64 a,.int .i64 b,.int .i64 c,.int .i64 d] 97)).alloc (.cells #[.int .i64 1] 3)=w0:=⟨_,rfl⟩
 rw[hw0]at X0 X1 hb0 ⊢
 have hcell:∀ j,j<1→w0.cell? ⟨w.heap.size+1,j,none⟩=some (.int .i64 1):=by
  intro j hj
  obtain rfl:j=0:=by omega
  exact X1.at_ 0 rfl
 have HZS:=Kh (c_Zs (w.heap.size+1) 1 1 (fun _=>1) w0 X1.lt hcell (fun _ _=>by omega) (by omega))
 clear hcell
 have HX0:=Kh X0
 have HB0:=Kh hb0
 clear X0 X1 hb0 hw0
 refine HZS.out.mono ?_
 rintro e w2 ⟨⟨v2,rfl,ho⟩,hb2⟩
 obtain⟨g2,cap2,rfl,hgB,hro⟩:=ho.row.resolve_left (fun h=>by omega)
 have HBW2:=bt HB0 hb2
 have HX2:=Kh (bk HX0 hb2)
 have hgw:w.heap.size≤g2:=Nat.le_trans HB0.out.size hgB
 have HRO:=Kh (hro.congr (f':=mv i a b c d 0) (fun j hj=>by
  obtain rfl:j=0:=by omega
  simp[mv]))
 clear hb2 ho HZS HB0 HX0 hgB hro
 go_wp2
 go_loopw [7,8] (fun v n wr=>∃ k:Nat,k≤m∧n=.int .i64 k∧∃ g cap,v=.slice (some ⟨g,0,none⟩) ((k+1:Nat)) cap∧w.heap.size≤g∧ZRow (mv i a b c d k) wr g (k+1) (k+1)∧Below w2.heap.size w2 wr) (fun _ n _=>m - (intOf n).toNat)
 case atStart=>exact⟨0,Nat.zero_le _,rfl,g2,cap2,rfl,hgw,HRO.out,Below.refl _ _⟩
 case round=>
  obtain⟨k,hk,rfl,g,cap,rfl,hgw2,hro,hbr⟩:=hrel
  have HBR:=Kh hbr
  have HB:=bt HBW2 hbr
  have x0:=(bk HX2 hbr).at_ 0 rfl
  have x1:=(bk HX2 hbr).at_ 1 rfl
  have x2:=(bk HX2 hbr).at_ 2 rfl
  have x3:=(bk HX2 hbr).at_ 3 rfl
  clear hbr HRO
  by_cases hlt:k<m
  ·by_cases hki:k<i
   ·have HT:=Kh (c_times40 (.slice (some ⟨g,0,none⟩) (k+1) cap) (k+1) (mv i a b c d k) a b (1+3*k) wr (hro.zl cap) (by omega) (by omega) (by have:=HAB.out;omega) (by have:=HAB.out;omega) (by have:=HAB.out;omega) (by have:=HAB.out;omega) (fun j=>mv_size i a b c d HN.out.1 HN.out.2.1 HN.out.2.2.1 HN.out.2.2.2 k j) (by omega) (mv_zero i a b c d k (k+1) (Nat.lt_succ_self k)))
    have HE:=Kh (show lin a b (mv i a b c d k)=mv i a b c d (k+1)by rw[mv,if_pos hki])
    clear hro
    go_wp2_with fail
    refine HT.out.mono ?_
    rintro e w5 ⟨⟨g5,cap5,rfl,hg5,hr5⟩,hb5⟩
    rw[HE.out]at hr5
    have HR5:=Kh hr5
    have HBR5:=bt HBR hb5
    have hg6:w.heap.size≤g5:=Nat.le_trans HB.out.size hg5
    clear hr5 hb5 HT HE HB
    go_wp2
    go_roundw
    case rel=>exact⟨k+1,by omega,by go_num,g5,cap5,rfl,hg6,HR5.out,HBR5.out⟩
    case measure=>simp[intOf];omega
   ·have HT:=Kh (c_times40 (.slice (some ⟨g,0,none⟩) (k+1) cap) (k+1) (mv i a b c d k) c d (1+3*k) wr (hro.zl cap) (by omega) (by omega) (by have:=HAB.out;omega) (by have:=HAB.out;omega) (by have:=HAB.out;omega) (by have:=HAB.out;omega) (fun j=>mv_size i a b c d HN.out.1 HN.out.2.1 HN.out.2.2.1 HN.out.2.2.2 k j) (by omega) (mv_zero i a b c d k (k+1) (Nat.lt_succ_self k)))
    have HE:=Kh (show lin c d (mv i a b c d k)=mv i a b c d (k+1)by rw[mv,if_neg hki])
    clear hro
    go_wp2_with fail
    refine HT.out.mono ?_
    rintro e w5 ⟨⟨g5,cap5,rfl,hg5,hr5⟩,hb5⟩
    rw[HE.out]at hr5
    have HR5:=Kh hr5
    have HBR5:=bt HBR hb5
    have hg6:w.heap.size≤g5:=Nat.le_trans HB.out.size hg5
    clear hr5 hb5 HT HE HB
    go_wp2
    go_roundw
    case rel=>exact⟨k+1,by omega,by go_num,g5,cap5,rfl,hg6,HR5.out,HBR5.out⟩
    case measure=>simp[intOf];omega
  ·obtain rfl:m=k:=by omega
   have HRR:=Kh hro
   clear hro
   go_wp2
   go_ret
   exact⟨⟨g,cap,rfl,hgw2,HRR.out⟩,HB.out⟩
end Go.Proofs.YthikonjlgljikaaGreatDoor
