/- Contracts of Fundamental and Psi of package arith, for numbers of at most 120. -/
import Derived.Test.YtenlbhlllgppmaaGreatDoorK03
set_option maxRecDepth 100000
set_option maxHeartbeats 8000000
namespace Go.Proofs.YtenlbhlllgppmaaGreatDoor
open Go.RowKit
def One (w:World) (b:Nat) (x:Int):Prop:=w.heap[b]?=some (.cells #[.int .i64 x] 3 (0,0))
theorem One.cell {w:World} {b:Nat} {x:Int} (h:One w b x):w.cell? ⟨b,0,none⟩=some (.int .i64 x):=by unfold One at h;simp[World.cell?,h]
theorem One.free {w:World} {b:Nat} {x:Int} (h:One w b x):w.frozen? ⟨b,0,none⟩=false:=by unfold One at h;simp[World.frozen?,h]
theorem One.lt {w:World} {b:Nat} {x:Int} (h:One w b x):b<w.heap.size:=by
 rcases Nat.lt_or_ge b w.heap.size with hlt|hge
 ·exact hlt
 ·unfold One at h;rw[Array.getElem?_eq_none hge]at h;cases h
theorem One.drew {w:World} {b:Nat} {x:Int} (h:One w b x) (n:Nat):One (w.drewN n) b x:=h
theorem One.set_ {w:World} {b:Nat} {x:Int} (h:One w b x) (y:Int):One (w.setCell ⟨b,0,none⟩ (.int .i64 y)) b y:=by
 unfold One at h ⊢
 simp[World.setCell,Array.getElem?_modify,h]
theorem One.far {w:World} {b c:Nat} {x:Int} (h:One w b x) (hne:b≠c) (v:Value):One (w.setCell ⟨c,0,none⟩ v) b x:=(Below.heap_setCell w ⟨c,0,none⟩ v b hne).trans h
theorem One.new (w:World) (x:Int):One (w.alloc (.cells #[.int .i64 x] 3)) w.heap.size x:=heap_alloc_new w _
theorem One.alloc {w:World} {b:Nat} {x:Int} (h:One w b x) (o:Obj):One (w.alloc o) b x:=(Below.heap_alloc w o b h.lt).trans h
theorem c_powerN (p e r:Nat) (w:World) (hp:0<p) (he:e≤64) (hr:p ^ e=r) (h:r<9223372036854775808):
  Calls Tryz.prog 198 #[.int .i64 p,.int .i64 e] w fun en w'=>en=.returned (.int .i64 (r:Int))∧w'=w:=by
 subst hr
 refine(c_power p e w hp (by omega) (by omega) (by simpa using h)).mono ?_
 rintro en w' ⟨rfl,rfl⟩
 exact⟨by simp,rfl⟩
theorem wrap_mul {x r:Nat} (h:x*r<9223372036854775808):IntKind.i64.wrap ((x:Int)*(r:Int))=((x*r:Nat):Int):=by
 rw[← Int.natCast_mul];exact IntWalk.i64_in _ (by omega)
theorem c_Fund1 (p e b1 b2 B:Nat) (x y:Nat) (w:World) (hp:0<p) (he:e≤60) (h1:One w b1 x) (h2:One w b2 y) (hne:b1≠b2) (hB1:B≤b1) (hB2:B≤b2)
  (hx:x*p ^ (e % 2)<9223372036854775808) (hy:y*p ^ (e / 2)<9223372036854775808) (hpe1:p ^ (e % 2)<9223372036854775808) (hpe2:p ^ (e / 2)<9223372036854775808):
  Calls Tryz.prog 197 #[.int .i64 p,.int .i64 e,.pointer (some ⟨b1,0,none⟩),.pointer (some ⟨b2,0,none⟩)] w fun en w'=>
   en=.returned (.tuple #[])∧One w' b1 ((x*p ^ (e % 2):Nat):Int)∧One w' b2 ((y*p ^ (e / 2):Nat):Int)∧Below B w w':=by
 generalize hr:p ^ (e % 2)=r at hx hpe1
 generalize hs:p ^ (e / 2)=s at hy hpe2
 have ht:(e:Int).tmod 2=((e % 2:Nat):Int):=by rw[Int.tmod_eq_emod_of_nonneg (by omega)];rfl
 have hd:IntKind.i64.wrap ((e:Int) / 2)=((e / 2:Nat):Int):=IntWalk.i64_in _ (by omega)
 have hm1:=wrap_mul hx
 have hm2:=wrap_mul hy
 have CP1:=fun w=>c_powerN p (e % 2) r w hp (by omega) hr hpe1
 have CP2:=fun w=>c_powerN p (e / 2) s w hp (by omega) hs hpe2
 have HR:=Kh hr
 have HS:=Kh hs
 clear hr hs
 have c1:=h1.cell
 have f1:=h1.free
 have H1:=Kh h1
 have H2:=Kh h2
 have HC1:=Kh CP1
 have HC2:=Kh CP2
 clear h1 h2 CP1 CP2
 go_enter Tryz.func197,Tryz.ntmps197
 go_wp2
 go_still_tail 6,(by kernel_rfl)
 still_call (HC1.out _)
 repeat still_step
 refine wpStill_nil ?_
 obtain⟨w1,hw1,K1,B1⟩:∃ w1,w1=w.drew∧One w1 b1 x∧Below B w w1:=⟨_,rfl,H1.out,(Below.refl _ _).drew⟩
 have K2:One w1 b2 y:=by rw[hw1];exact H2.out
 change wpList _ _ _ _ _ w.drew
 rw[← hw1]
 have c1':=K1.cell
 have f1':=K1.free
 have HK1:=Kh K1
 have HK2:=Kh K2
 have HW:=Kh hw1
 clear hw1 K1 K2 c1 f1
 go_wp2
 obtain⟨w2,hw2,L1,L2,B2⟩:∃ w2,w2=w1.setCell ⟨b1,0,none⟩ (.int .i64 ((x:Int)*(r:Int)))∧One w2 b1 ((x*r:Nat):Int)∧One w2 b2 y∧Below B w w2:=
  ⟨_,rfl,by rw[Int.natCast_mul];exact HK1.out.set_ _,HK2.out.far (fun h=>hne h.symm) _,B1.setCell hB1 _⟩
 rw[← hw2]
 have c2:=L2.cell
 have f2:=L2.free
 have HL1:=Kh L1
 have HL2:=Kh L2
 have HW2:=Kh hw2
 clear c1' f1' L1 L2 hw2 hm1
 go_still_tail 6,(by kernel_rfl)
 still_call (HC2.out _)
 repeat still_step
 refine wpStill_nil ?_
 obtain⟨w3,hw3,M1,B3⟩:∃ w3,w3=w2.drew∧One w3 b1 ((x*r:Nat):Int)∧Below B w w3:=⟨_,rfl,HL1.out,B2.drew⟩
 have M2:One w3 b2 y:=by rw[hw3];exact HL2.out
 change wpList _ _ _ _ _ w2.drew
 rw[← hw3]
 have c3:=M2.cell
 have f3:=M2.free
 have HM1:=Kh M1
 have HM2:=Kh M2
 have HW3:=Kh hw3
 clear hw3 M1 M2 c2 f2
 go_wp2
 go_end0
 refine⟨rfl,?_,?_,B3.setCell hB2 _⟩
 ·exact HM1.out.far hne _
 ·rw[Int.natCast_mul];exact HM2.out.set_ _
def FundI (w0:World) (b1 b2:Nat) (n:Nat) (k:Nat) (w:World):Prop:=
 One w b1 (Pl.fundFold ((Pl.facs n).take k)).1∧One w b2 (Pl.fundFold ((Pl.facs n).take k)).2∧Below w0.heap.size w0 w
theorem pow_le' {q e m:Nat} (hq:1<q) (h:m≤e) (hb:q ^ e≤120):q ^ m<9223372036854775808:=by
 have:=Nat.pow_le_pow_right (show 0<q by omega) h;omega
theorem fund_call {w0:World} {b1 b2 n k q e:Nat} {w:World} (hn:n<121) (h:(Pl.facs n)[k]?=some (q,e)) (hI:FundI w0 b1 b2 n k w) (hne:b1≠b2) (h1:w0.heap.size≤b1) (h2:w0.heap.size≤b2):
  Calls Tryz.prog 197 #[.int .i64 q,.int .i64 e,.pointer (some ⟨b1,0,none⟩),.pointer (some ⟨b2,0,none⟩)] w fun en w'=>en=.returned (.tuple #[])∧FundI w0 b1 b2 n (k+1) w':=by
 obtain⟨i1,i2,i3⟩:=hI
 obtain⟨a1,a2,a3,a4,a5,a6,a7,a8⟩:=Pl.facs_at hn h
 refine(c_Fund1 q e b1 b2 w0.heap.size _ _ w (by omega) (by omega) i1 i2 hne h1 h2 (by omega) (by omega) (pow_le' a1 (by omega) a5) (pow_le' a1 (by omega) a5)).mono ?_
 rintro en w' ⟨rfl,j1,j2,j3⟩
 refine⟨rfl,?_,?_,i3.trans j3⟩
 ·rw[Pl.fundFold_snoc h];exact j1
 ·rw[Pl.fundFold_snoc h];exact j2
theorem callFund (args:Array Value) (w:World):(callFunc 197 args).run Tryz.prog w=.ok (.enter 197 args) w:=by
 kernel_rfl
theorem fundI_start (w:World) (n:Nat):FundI w (w.heap.size+1) w.heap.size n 0 ((w.alloc (.cells #[.int .i64 1] 3)).alloc (.cells #[.int .i64 1] 3)):=by
 refine⟨?_,(One.new w 1).alloc _,((Below.refl _ _).alloc (Nat.le_refl _) _).alloc (by simp) _⟩
 have:=One.new (w.alloc (.cells #[.int .i64 1] 3)) 1
 rw[show(w.alloc (.cells #[.int .i64 1] 3)).heap.size=w.heap.size+1 from by simp]at this
 exact this
theorem fundP_pos {n x y:Nat} (hx:(Pl.fundFold (Pl.facs n)).1=x) (hy:(Pl.fundFold (Pl.facs n)).2=y):Pl.fundP n=if(x:Int) % 4≠1 then(4*(x:Int),((y / 2:Nat):Int))else((x:Int),(y:Int)):=by
 subst hx hy
 unfold Pl.fundP
 have:¬ (n:Int)<0:=by omega
 simp only[this,if_false,Int.natAbs_natCast]
theorem fundP_neg {n x y:Nat} (h:0<n) (hx:(Pl.fundFold (Pl.facs n)).1=x) (hy:(Pl.fundFold (Pl.facs n)).2=y):Pl.fundP (-(n:Int))=if(-(x:Int)) % 4≠1 then(4 * -(x:Int),((y / 2:Nat):Int))else(-(x:Int),(y:Int)):=by
 subst hx hy
 unfold Pl.fundP
 have:-(n:Int)<0:=by omega
 simp only[this,if_true,Int.natAbs_neg,Int.natAbs_natCast]
theorem c_Fund_pos (n:Nat) (w:World) (h0:0<n) (hd':n≤120) (hm:(n:Int) % 4≤1):
  Calls Tryz.prog 161 #[.int .i64 n] w fun en w'=>en=.returned (.tuple #[.int .i64 (Pl.fundP n).1,.int .i64 (Pl.fundP n).2,.int .i64 0])∧Below w.heap.size w w':=by
 obtain⟨x,hx⟩:∃ x,(Pl.fundFold (Pl.facs n)).1=x:=⟨_,rfl⟩
 obtain⟨y,hy⟩:∃ y,(Pl.fundFold (Pl.facs n)).2=y:=⟨_,rfl⟩
 have hb:=Pl.fund_bound n (by omega)
 rw[hx,hy]at hb
 obtain⟨hb1,hb2⟩:=hb
 have HP:=Kh (fundP_pos hx hy)
 have HX:=Kh hx
 have HY:=Kh hy
 clear hx hy
 go_enter Tryz.func161,Tryz.ntmps161
 go_wp2_with (first |(go_at_call 126;refine(c_residue _ _ _ (by omega) (by omega)).mono ?_;rintro e w' ⟨rfl,rfl⟩))
 refine(c_factors n 197 _ _ _ (FundI w (w.heap.size+1) w.heap.size n) h0 (by omega) (fundI_start w n) callFund (fun k q e wk h hI=>fund_call (by omega) h hI (by omega) (by omega) (by omega))).mono ?_
 rintro en w1 ⟨rfl,j1,j2,j3⟩
 rw[List.take_length,HX.out]at j1
 rw[List.take_length,HY.out]at j2
 have c1:=j1.cell
 have c2:=j2.cell
 have f2:=j2.free
 have HJ1:=Kh j1
 have HJ2:=Kh j2
 clear j1 j2
 by_cases hx4:(x:Int) % 4=1
 ·go_wp2_with (first |(go_at_call 126;refine(c_residue _ _ _ (by omega) (by omega)).mono ?_;rintro e w' ⟨rfl,rfl⟩))
  go_region
  all_goals go_wp2
  all_goals (refine bodyPost_ret (v:=.tuple #[.int .i64 (x:Int),.int .i64 (y:Int),.int .i64 0]) (by simp[results,Tryz.results161,go_sem,c2]) rfl ⟨?_,?_⟩)
  ·rw[HP.out,if_neg (by omega)]
  ·exact(j3.setCell (Nat.le_refl _) _).drew
 ·have hx4b:((x:Int) % 4 != 1)=true:=by simp;omega
  go_wp2_with (first |(go_at_call 126;refine(c_residue _ _ _ (by omega) (by omega)).mono ?_;rintro e w' ⟨rfl,rfl⟩))
  go_region
  all_goals go_wp2
  all_goals (refine bodyPost_ret (v:=.tuple #[.int .i64 (4*(x:Int)),.int .i64 ((y / 2:Nat):Int),.int .i64 0]) (by simp[results,Tryz.results161,go_sem,c2]) rfl ⟨?_,?_⟩)
  ·rw[HP.out,if_pos (by omega)]
  ·exact(j3.setCell (Nat.le_refl _) _).drew
theorem c_Fund_neg (n:Nat) (w:World) (h0:0<n) (hd':n≤120) (hm:(-(n:Int)) % 4≤1):
  Calls Tryz.prog 161 #[.int .i64 (-(n:Int))] w fun en w'=>en=.returned (.tuple #[.int .i64 (Pl.fundP (-(n:Int))).1,.int .i64 (Pl.fundP (-(n:Int))).2,.int .i64 0])∧Below w.heap.size w w':=by
 obtain⟨x,hx⟩:∃ x,(Pl.fundFold (Pl.facs n)).1=x:=⟨_,rfl⟩
 obtain⟨y,hy⟩:∃ y,(Pl.fundFold (Pl.facs n)).2=y:=⟨_,rfl⟩
 have hb:=Pl.fund_bound n (by omega)
 rw[hx,hy]at hb
 obtain⟨hb1,hb2⟩:=hb
 have HP:=Kh (fundP_neg h0 hx hy)
 have HX:=Kh hx
 have HY:=Kh hy
 clear hx hy
 have hz:((-(n:Int))==0)=false:=by simp;omega
 go_enter Tryz.func161,Tryz.ntmps161
 go_wp2_with (first |(go_at_call 126;refine(c_residue _ _ _ (by omega) (by omega)).mono ?_;rintro e w' ⟨rfl,rfl⟩))
 all_goals try(exfalso;omega)
 refine(c_factors n 197 _ _ _ (FundI w (w.heap.size+1) w.heap.size n) h0 (by omega) (fundI_start w n) callFund (fun k q e wk h hI=>fund_call (by omega) h hI (by omega) (by omega) (by omega))).mono ?_
 rintro en w1 ⟨rfl,j1,j2,j3⟩
 rw[List.take_length,HX.out]at j1
 rw[List.take_length,HY.out]at j2
 have c1:=j1.cell
 have f1:=j1.free
 have HJ1:=Kh j1
 have HJ2:=Kh j2
 clear j1 j2
 have hlt:-(n:Int)<0:=by omega
 go_upto_if 33 with(first |(go_at_call 126;refine(c_residue _ _ _ (by omega) (by omega)).mono ?_;rintro e w' ⟨rfl,rfl⟩))
 obtain⟨w2,hw2,k1,k2,k3⟩:∃ w2,w2=w1.setCell ⟨w.heap.size+1,0,none⟩ (.int .i64 (-(x:Int)))∧One w2 (w.heap.size+1) (-(x:Int))∧One w2 w.heap.size y∧Below w.heap.size w w2:=
  ⟨_,rfl,HJ1.out.set_ _,HJ2.out.far (by omega) _,j3.setCell (by show w.heap.size≤w.heap.size+1;omega) _⟩
 rw[← hw2]
 have HW2:=Kh hw2
 have c3:=k1.cell
 have c2:=k2.cell
 have f2:=k2.free
 have K1:=Kh k1
 have K2:=Kh k2
 clear hw2 k1 k2 c1 f1
 by_cases hx4:(-(x:Int)) % 4=1
 ·go_wp2
  go_region
  all_goals go_wp2
  all_goals (refine bodyPost_ret (v:=.tuple #[.int .i64 (-(x:Int)),.int .i64 (y:Int),.int .i64 0]) (by simp[results,Tryz.results161,go_sem,c2]) rfl ⟨?_,?_⟩)
  ·rw[HP.out,if_neg (by omega)]
  ·exact(k3.setCell (Nat.le_refl _) _).drew
 ·have hx4b:((-(x:Int)) % 4 != 1)=true:=by simp;omega
  go_wp2
  go_region
  all_goals go_wp2
  all_goals (refine bodyPost_ret (v:=.tuple #[.int .i64 (4 * -(x:Int)),.int .i64 ((y / 2:Nat):Int),.int .i64 0]) (by simp[results,Tryz.results161,go_sem,c2]) rfl ⟨?_,?_⟩)
  ·rw[HP.out,if_pos (by omega)]
  ·exact(k3.setCell (Nat.le_refl _) _).drew
theorem c_Fund_bad (d:Int) (w:World) (h0:d≠0) (hd:-120≤d) (hd':d≤120) (hm:1<d % 4):
  Calls Tryz.prog 161 #[.int .i64 d] w fun en w'=>en=.returned (.tuple #[.int .i64 0,.int .i64 0,.int .i64 15])∧Below w.heap.size w w':=by
 have hz:(d==0)=false:=by simp;omega
 go_enter Tryz.func161,Tryz.ntmps161
 go_wp2_with (first |(go_at_call 126;refine(c_residue _ _ _ (by omega) (by omega)).mono ?_;rintro e w' ⟨rfl,rfl⟩))
 all_goals try(exfalso;omega)
 refine bodyPost_ret (v:=.tuple #[.int .i64 0,.int .i64 0,.int .i64 15]) (by simp[results,Tryz.results161,go_sem]) rfl ⟨rfl,?_⟩
 go_grown
theorem c_Fund_zero (w:World):
  Calls Tryz.prog 161 #[.int .i64 0] w fun en w'=>en=.returned (.tuple #[.int .i64 0,.int .i64 0,.int .i64 2])∧Below w.heap.size w w':=by
 go_enter Tryz.func161,Tryz.ntmps161
 go_wp2
 refine bodyPost_ret (v:=.tuple #[.int .i64 0,.int .i64 0,.int .i64 2]) (by simp[results,Tryz.results161,go_sem]) rfl ⟨rfl,?_⟩
 go_grown
/-! Psi -/
theorem c_Psi1 (q e:Nat) (w:World) (hq:0<q) (hq':q≤1000) (he:0<e) (he':e≤60) (h:q ^ (e - 1)*(q+1)<9223372036854775808):
  Calls Tryz.prog 200 #[.int .i64 q,.int .i64 e] w fun en w'=>en=.returned (.int .i64 ((q ^ (e - 1)*(q+1):Nat):Int))∧w=w':=by
 obtain⟨r,hr⟩:∃ r,q ^ (e - 1)=r:=⟨_,rfl⟩
 rw[hr]at h ⊢
 have hrl:r<9223372036854775808:=Nat.lt_of_le_of_lt (Nat.le_mul_of_pos_right _ (by omega)) h
 have hb0:0≤(r:Int)*((q:Int)+1):=by rw[show(r:Int)*((q:Int)+1)=((r*(q+1):Nat):Int)from by simp];omega
 have hb1:(r:Int)*((q:Int)+1)<9223372036854775808:=by rw[show(r:Int)*((q:Int)+1)=((r*(q+1):Nat):Int)from by simp];omega
 have he1:(e:Int) - 1=((e - 1:Nat):Int):=by omega
 have HR:=Kh hr
 clear hr
 go_enter Tryz.func200,Tryz.ntmps200
 go_wp2_with (first |(go_at_call 198;refine(c_powerN q (e - 1) r _ hq (by omega) HR.out hrl).mono ?_;rintro e w' ⟨rfl,rfl⟩))
 go_ret
 exact⟨ret_i (by simp),rfl⟩
theorem c_product1 (q e b1 b2 B x:Nat) (w:World) (hq:0<q) (hq':q≤1000) (he:0<e) (he':e≤60) (h1:One w b1 x) (h2:w.heap[b2]?=some (.cells #[.func (.func 200) #[] #[]] 88 (0,0))) (hB1:B≤b1)
  (h:q ^ (e - 1)*(q+1)<9223372036854775808) (hx:x*(q ^ (e - 1)*(q+1))<9223372036854775808):
  Calls Tryz.prog 213 #[.int .i64 q,.int .i64 e,.pointer (some ⟨b1,0,none⟩),.pointer (some ⟨b2,0,none⟩)] w fun en w'=>
   en=.returned (.tuple #[])∧One w' b1 ((x*(q ^ (e - 1)*(q+1)):Nat):Int)∧w'.heap[b2]?=some (.cells #[.func (.func 200) #[] #[]] 88 (0,0))∧Below B w w':=by
 have c1:=h1.cell
 have f1:=h1.free
 have c2:w.cell? ⟨b2,0,none⟩=some (.func (.func 200) #[] #[]):=by simp[World.cell?,h2]
 have hne:b1≠b2:=by
  rintro rfl
  unfold One at h1
  rw[h2]at h1
  simp at h1
 have CP:=fun w=>(c_Psi1 q e w hq hq' he he' h).mono fun _ _ h=>(⟨h.1,h.2.symm⟩:_∧_=w)
 have hm1:=wrap_mul hx
 generalize q ^ (e - 1)*(q+1)=r at *
 have HC:=Kh CP
 have H1:=Kh h1
 have H2:=Kh h2
 clear CP h1 h2
 go_enter Tryz.func213,Tryz.ntmps213
 go_wp2
 go_still_tail 6,(by kernel_rfl)
 still_call (HC.out _)
 repeat still_step
 refine wpStill_nil ?_
 obtain⟨w3,hw3,M1,B3⟩:∃ w3,w3=w.drew∧One w3 b1 x∧Below B w w3:=⟨_,rfl,H1.out,(Below.refl _ _).drew⟩
 have M2:w3.heap[b2]?=some (.cells #[.func (.func 200) #[] #[]] 88 (0,0)):=by rw[hw3];exact H2.out
 change wpList _ _ _ _ _ w.drew
 rw[← hw3]
 have c3:=M1.cell
 have f3:=M1.free
 have HM1:=Kh M1
 have HM2:=Kh M2
 have HW3:=Kh hw3
 clear hw3 M1 M2 c2 c1 f1
 go_wp2
 go_end0
 refine⟨rfl,?_,(Below.heap_setCell w3 ⟨b1,0,none⟩ _ b2 (fun h=>hne h.symm)).trans HM2.out,B3.setCell hB1 _⟩
 rw[Int.natCast_mul];exact HM1.out.set_ _
def PsiI (w0:World) (b1 b2:Nat) (n:Nat) (k:Nat) (w:World):Prop:=
 One w b1 (Pl.psiFold ((Pl.facs n).take k))∧w.heap[b2]?=some (.cells #[.func (.func 200) #[] #[]] 88 (0,0))∧Below w0.heap.size w0 w
theorem psi_call {w0:World} {b1 b2 n k q e:Nat} {w:World} (hn:n<121) (h:(Pl.facs n)[k]?=some (q,e)) (hI:PsiI w0 b1 b2 n k w) (h1:w0.heap.size≤b1):
  Calls Tryz.prog 213 #[.int .i64 q,.int .i64 e,.pointer (some ⟨b1,0,none⟩),.pointer (some ⟨b2,0,none⟩)] w fun en w'=>en=.returned (.tuple #[])∧PsiI w0 b1 b2 n (k+1) w':=by
 obtain⟨i1,i2,i3⟩:=hI
 obtain⟨a1,a2,a3,a4,a5,a6,a7,a8⟩:=Pl.facs_at hn h
 have h9:q ^ (e - 1)*(q+1)≤1000*1000:=by
  have e1:=Nat.pow_le_pow_right (show 0<q by omega) (show e - 1≤e by omega)
  exact Nat.mul_le_mul (by omega) (by omega)
 refine(c_product1 q e b1 b2 w0.heap.size _ w (by omega) (by omega) a3 (by omega) i1 i2 h1 (by omega) (by omega)).mono ?_
 rintro en w' ⟨rfl,j1,j2,j3⟩
 refine⟨rfl,?_,j2,i3.trans j3⟩
 rw[Pl.psiFold_snoc h];exact j1
theorem callProd (args:Array Value) (w:World):(callFunc 213 args).run Tryz.prog w=.ok (.enter 213 args) w:=by
 kernel_rfl
theorem psiI_start (w:World) (n:Nat):PsiI w (w.heap.size+1) w.heap.size n 0 ((w.alloc (.cells #[.func (.func 200) #[] #[]] 88)).alloc (.cells #[.int .i64 1] 3)):=by
 refine⟨?_,?_,((Below.refl _ _).alloc (Nat.le_refl _) _).alloc (by simp) _⟩
 ·have:=One.new (w.alloc (.cells #[.func (.func 200) #[] #[]] 88)) 1
  rw[show(w.alloc (.cells #[.func (.func 200) #[] #[]] 88)).heap.size=w.heap.size+1 from by simp]at this
  exact this
 ·exact(Below.heap_alloc _ _ _ (by simp)).trans (heap_alloc_new w _)
theorem c_inRange_yes (n:Int) (w:World) (h:1≤n) (h':n≤2147483647):
  Calls Tryz.prog 124 #[.int .i64 n] w fun en w'=>en=.returned (.bool true)∧w=w':=by
 have hb:decide (n≤2147483647)=true:=by simpa using h'
 go_enter Tryz.func124,Tryz.ntmps124
 go_wp2
 go_ret
 exact⟨by simp,rfl⟩
theorem c_Psi (n:Nat) (w:World) (h0:0<n) (hn:n≤120):
  Calls Tryz.prog 162 #[.int .i64 n] w fun en w'=>en=.returned (.tuple #[.int .i64 (Pl.psi n),.int .i64 0])∧Below w.heap.size w w':=by
 have hp:Calls Tryz.prog 199 #[.int .i64 n,.func (.func 200) #[] #[]] w fun en w'=>en=.returned (.tuple #[.int .i64 (Pl.psi n),.int .i64 0])∧Below w.heap.size w w':=by
  go_enter Tryz.func199,Tryz.ntmps199
  go_wp2_with (go_at_call 124;refine(c_inRange_yes _ _ (by omega) (by omega)).mono ?_;rintro e w' ⟨rfl,rfl⟩)
  refine(c_factors n 213 _ _ _ (PsiI w (w.heap.size+1) w.heap.size n) h0 (by omega) (psiI_start w n) callProd (fun k q e wk h hI=>psi_call (by omega) h hI (by omega))).mono ?_
  rintro en w1 ⟨rfl,j1,j2,j3⟩
  rw[List.take_length]at j1
  have c1:=j1.cell
  have HJ1:=Kh j1
  have HJ2:=Kh j2
  clear j1 j2
  go_wp2
  go_ret2
  exact⟨rfl,j3⟩
 go_enter Tryz.func162,Tryz.ntmps162
 go_wp2_with (go_at_call 199;refine hp.mono ?_;rintro en w1 ⟨rfl,hb⟩)
 go_ret2
 exact⟨rfl,hb⟩
abbrev spec (N k D:Int):Value:=.agg #[.int .i64 N,.int .i64 k,.int .i64 D]
theorem check_range {N k D:Int} (h:N<1∨120<N∨k<2∨24<k∨D < -120∨120<D):Pl.check N k D=2:=by unfold Pl.check;rw[if_pos h]
theorem fund_yes {D:Int} (h:Pl.fund D=true):D≠0∧D % 4≤1∧(Pl.fundP D).2=1:=by
 simp only[Pl.fund,Bool.and_eq_true,decide_eq_true_eq]at h
 exact⟨h.1.1,h.1.2,h.2⟩
theorem c_Fundamental (d:Int) (w:World) (hd:-120≤d) (hd':d≤120):
  Calls Tryz.prog 161 #[.int .i64 d] w fun en w'=>(∃ a b c:Int,en=.returned (.tuple #[.int .i64 a,.int .i64 b,.int .i64 c])∧(Pl.fund d=true↔c=0∧b=1))∧Below w.heap.size w w':=by
 by_cases h0:d=0
 ·subst h0
  refine(c_Fund_zero w).mono ?_
  rintro en w' ⟨rfl,hb⟩
  exact⟨⟨0,0,2,rfl,by decide⟩,hb⟩
 ·by_cases h1:1<d % 4
  ·refine(c_Fund_bad d w h0 hd hd' h1).mono ?_
   rintro en w' ⟨rfl,hb⟩
   refine⟨⟨0,0,15,rfl,?_⟩,hb⟩
   constructor
   ·intro h;have:=fund_yes h;omega
   ·intro h;omega
  ·have key:Calls Tryz.prog 161 #[.int .i64 d] w fun en w'=>en=.returned (.tuple #[.int .i64 (Pl.fundP d).1,.int .i64 (Pl.fundP d).2,.int .i64 0])∧Below w.heap.size w w':=by
    by_cases h2:0≤d
    ·obtain⟨n,rfl⟩:=Int.eq_ofNat_of_zero_le h2
     exact c_Fund_pos n w (by omega) (by omega) (by omega)
    ·obtain⟨n,rfl⟩:∃ n:Nat,d=-(n:Int):=⟨d.natAbs,by omega⟩
     exact c_Fund_neg n w (by omega) (by omega) (by omega)
   refine key.mono ?_
   rintro en w' ⟨rfl,hb⟩
   refine⟨⟨_,_,0,rfl,?_⟩,hb⟩
   constructor
   ·intro h;exact⟨rfl,(fund_yes h).2.2⟩
   ·intro h
    simp only[Pl.fund,Bool.and_eq_true,decide_eq_true_eq]
    exact⟨⟨h0,by omega⟩,h.2⟩
theorem c_Check_range (N k D:Int) (w:World) (h:N<1∨120<N∨k<2∨24<k∨D < -120∨120<D):
  Calls Tryz.prog 127 #[spec N k D] w fun en w'=>en=.returned (.int .i64 (Pl.check N k D))∧Below w.heap.size w w':=by
 rw[check_range h]
 by_cases h1:N<1
 ·go_enter Tryz.func127,Tryz.ntmps127
  go_wp2
  go_ret
  exact⟨rfl,by go_grown⟩
 ·by_cases h2:120<N
  ·go_enter Tryz.func127,Tryz.ntmps127
   go_wp2
   go_ret
   exact⟨rfl,by go_grown⟩
  ·by_cases h3:k<2
   ·go_enter Tryz.func127,Tryz.ntmps127
    go_wp2
    go_ret
    exact⟨rfl,by go_grown⟩
   ·by_cases h4:24<k
    ·go_enter Tryz.func127,Tryz.ntmps127
     go_wp2
     go_ret
     exact⟨rfl,by go_grown⟩
    ·by_cases h5:D < -120
     ·go_enter Tryz.func127,Tryz.ntmps127
      go_wp2
      go_ret
      exact⟨rfl,by go_grown⟩
     ·have h6:120<D:=by omega
      go_enter Tryz.func127,Tryz.ntmps127
      go_wp2
      go_ret
      exact⟨rfl,by go_grown⟩
theorem parity_eq (D k:Int) (h0:D≠0):((decide (D<0) !=(k % 2==1))=true)↔((D<0∧k % 2=0)∨(0<D∧k % 2=1)):=by
 by_cases h1:D<0 <;> by_cases h2:k % 2=1 <;> simp[h1,h2] <;> omega
theorem c_Check_in (N k D:Int) (w:World) (hN:1≤N) (hN':N≤120) (hk:2≤k) (hk':k≤24) (hD:-120≤D) (hD':D≤120):
  Calls Tryz.prog 127 #[spec N k D] w fun en w'=>en=.returned (.int .i64 (Pl.check N k D))∧Below w.heap.size w w':=by
 have HF:Pl.check N k D=if Pl.fund D=false then 15 else if N % D≠0 then 14 else if(D<0∧k % 2=0)∨(0<D∧k % 2=1)then 16 else if 512<(Pl.psi N.toNat:Int)*(k - 1)then 7 else 0:=by
  unfold Pl.check;rw[if_neg (by omega)]
 obtain⟨n,rfl⟩:=Int.eq_ofNat_of_zero_le (show 0≤N by omega)
 have hps:=Pl.psi_small n (by omega) (by omega)
 rw[Int.toNat_natCast]at HF
 obtain⟨q,hq⟩:∃ q,Pl.psi n=q:=⟨_,rfl⟩
 rw[hq]at HF hps
 have HF':=Kh HF
 clear HF
 have HQ:=Kh hq
 clear hq
 go_enter Tryz.func127,Tryz.ntmps127
 go_wp2_with fail
 refine(c_Fundamental D _ hD hD').mono ?_
 rintro en w1 ⟨⟨a,b,c,rfl,hiff⟩,hb1⟩
 simp only[World.size_alloc]at hb1
 have B1:Blk w1 w.heap.size 23 #[.int .i64 n,.int .i64 k,.int .i64 D]:=(Blk.new w _ _).below_ hb1 (by omega)
 have W1:Below w.heap.size w w1:=((Below.refl _ _).alloc (Nat.le_refl _) _).trans (hb1.mono (by omega))
 by_cases hfd:Pl.fund D=false
 ·have hne:c≠0∨b≠1:=by
   by_cases h1:c=0
   ·by_cases h2:b=1
    ·rw[hiff.2 ⟨h1,h2⟩]at hfd;cases hfd
    ·exact .inr h2
   ·exact .inl h1
  have HR:Pl.check n k D=15:=by rw[HF'.out,if_pos hfd]
  have HR':=Kh HR
  clear HR HF' hfd hiff
  rcases hne with h|h
  ·go_wp2
   all_goals go_ret
   all_goals exact⟨ret_i HR'.out.symm,W1⟩
  ·go_wp2
   all_goals go_ret
   all_goals exact⟨ret_i HR'.out.symm,W1⟩
 ·have hfd':Pl.fund D=true:=by simpa using hfd
  obtain⟨rfl,rfl⟩:=hiff.1 hfd'
  have hD0:D≠0:=(fund_yes hfd').1
  have c0:=B1.at_ 0 rfl
  have HF2:Pl.check n k D=if(n:Int) % D≠0 then 14 else if(D<0∧k % 2=0)∨(0<D∧k % 2=1)then 16 else if 512<(q:Int)*(k - 1)then 7 else 0:=by rw[HF'.out,if_neg hfd]
  have HF3:=Kh HF2
  clear HF2 HF' hfd hfd' hiff
  go_wp2_with fail
  refine(c_Psi n _ (by omega) (by omega)).mono ?_
  rintro en w2 ⟨rfl,hb2⟩
  rw[HQ.out]
  have B2:Blk w2 w.heap.size 23 #[.int .i64 n,.int .i64 k,.int .i64 D]:=B1.below_ hb2 B1.lt
  have W2:Below w.heap.size w w2:=W1.trans (hb2.mono (Nat.le_of_lt B1.lt))
  have d0:=B2.at_ 0 rfl
  have d1:=B2.at_ 1 rfl
  have d2:=B2.at_ 2 rfl
  have HB1:=Kh B1
  have HB2:=Kh B2
  have HW1:=Kh hb1
  have HW2:=Kh hb2
  clear c0 B1 B2 hb1 hb2 W1
  have hb0:0≤(q:Int)*(k - 1):=Int.mul_nonneg (by omega) (by omega)
  have hb1:(q:Int)*(k - 1)≤1000*23:=Int.mul_le_mul (by omega) (by omega) (by omega) (by omega)
  go_wp2
  all_goals go_ret
  all_goals refine⟨ret_i ?_,W2⟩
  all_goals rw[HF3.out]
  ·have h1:((n:Int) % D != 0)=true:=by assumption
   rw[if_pos (bne_iff_ne.1 h1)]
  ·have h1:((n:Int) % D != 0)=false:=by assumption
   have h2:(!decide (D<0)==(k % 2==1))=true:=by assumption
   rw[if_neg (by simpa using h1),if_pos ((parity_eq D k hD0).1 (by rw[bne];revert h2;cases decide (D<0) <;> cases (k % 2==1) <;> simp))]
  ·have h1:((n:Int) % D != 0)=false:=by assumption
   have h2:(!decide (D<0)==(k % 2==1))=false:=by assumption
   rw[if_neg (by simpa using h1),if_neg (fun h=>by have:=(parity_eq D k hD0).2 h;rw[bne]at this;revert h2 this;cases decide (D<0) <;> cases (k % 2==1) <;> simp),if_pos (by assumption)]
  ·have h1:((n:Int) % D != 0)=false:=by assumption
   have h2:(!decide (D<0)==(k % 2==1))=false:=by assumption
   rw[if_neg (by simpa using h1),if_neg (fun h=>by have:=(parity_eq D k hD0).2 h;rw[bne]at this;revert h2 this;cases decide (D<0) <;> cases (k % 2==1) <;> simp),if_neg (by omega)]
theorem c_Check (N k D:Int) (w:World):
  Calls Tryz.prog 127 #[spec N k D] w fun en w'=>en=.returned (.int .i64 (Pl.check N k D))∧Below w.heap.size w w':=by
 by_cases h:N<1∨120<N∨k<2∨24<k∨D < -120∨120<D
 ·exact c_Check_range N k D w h
 ·exact c_Check_in N k D w (by omega) (by omega) (by omega) (by omega) (by omega) (by omega)
end Go.Proofs.YtenlbhlllgppmaaGreatDoor
