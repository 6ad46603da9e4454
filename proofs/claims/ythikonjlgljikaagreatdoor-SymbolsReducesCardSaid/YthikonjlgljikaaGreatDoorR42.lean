/- Contracts of halfplanebase.CopyMatrix and halfplaneref41.Rational. -/
import Derived.Test.YthikonjlgljikaaGreatDoorR12
import Derived.Test.YthikonjlgljikaaGreatDoorR41
import Derived.Test.YthikonjlgljikaaGreatDoorR26
import Derived.Test.YthikonjlgljikaaGreatDoorR33
set_option linter.unusedSimpArgs false
set_option maxRecDepth 100000
set_option maxHeartbeats 8000000
namespace Go.Proofs.YthikonjlgljikaaGreatDoor
open Go.RowKit Eli
theorem T3_3_next {B:Nat} {w0 w w':World} {a0 a1 a2 b0 b1 b2:Addr} {v0 v1 v2:Value} (hb:Below w.heap.size w w') (h:w.cell? a0=some v0∧w.cell? a1=some v1∧w.cell? a2=some v2∧w.cell? b0=some (cellOf w b0)∧w.frozen? b0=false∧w.cell? b1=some (cellOf w b1)∧w.frozen? b1=false∧w.cell? b2=some (cellOf w b2)∧w.frozen? b2=false∧Below B w0 w∧B≤w.heap.size):w'.cell? a0=some v0∧w'.cell? a1=some v1∧w'.cell? a2=some v2∧w'.cell? b0=some (cellOf w' b0)∧w'.frozen? b0=false∧w'.cell? b1=some (cellOf w' b1)∧w'.frozen? b1=false∧w'.cell? b2=some (cellOf w' b2)∧w'.frozen? b2=false∧Below B w0 w'∧B≤w'.heap.size:=TT.next (B:=B) (w0:=w0) (l:=[(a0,v0),(a1,v1),(a2,v2)]) (m:=[b0,b1,b2]) hb h
theorem T3_3_below {B:Nat} {w0 w:World} {a0 a1 a2 b0 b1 b2:Addr} {v0 v1 v2:Value} (h:w.cell? a0=some v0∧w.cell? a1=some v1∧w.cell? a2=some v2∧w.cell? b0=some (cellOf w b0)∧w.frozen? b0=false∧w.cell? b1=some (cellOf w b1)∧w.frozen? b1=false∧w.cell? b2=some (cellOf w b2)∧w.frozen? b2=false∧Below B w0 w∧B≤w.heap.size):Below B w0 w:=TT.below (B:=B) (w0:=w0) (l:=[(a0,v0),(a1,v1),(a2,v2)]) (m:=[b0,b1,b2]) h
theorem T3_3_put {B:Nat} {w0 w:World} {a0 a1 a2 b0 b1 b2:Addr} {v0 v1 v2:Value} (h:w.cell? a0=some v0∧w.cell? a1=some v1∧w.cell? a2=some v2∧w.cell? b0=some (cellOf w b0)∧w.frozen? b0=false∧w.cell? b1=some (cellOf w b1)∧w.frozen? b1=false∧w.cell? b2=some (cellOf w b2)∧w.frozen? b2=false∧Below B w0 w∧B≤w.heap.size) {p0 p1 p2:Addr} {u0 u1 u2:Value} (hp0:B≤p0.block) (hn0_0:p0.block≠a0.block) (hn0_1:p0.block≠a1.block) (hn0_2:p0.block≠a2.block) (hp1:B≤p1.block) (hn1_0:p1.block≠a0.block) (hn1_1:p1.block≠a1.block) (hn1_2:p1.block≠a2.block) (hp2:B≤p2.block) (hn2_0:p2.block≠a0.block) (hn2_1:p2.block≠a1.block) (hn2_2:p2.block≠a2.block):(((w.setCell p0 u0).setCell p1 u1).setCell p2 u2).cell? a0=some v0∧(((w.setCell p0 u0).setCell p1 u1).setCell p2 u2).cell? a1=some v1∧(((w.setCell p0 u0).setCell p1 u1).setCell p2 u2).cell? a2=some v2∧(((w.setCell p0 u0).setCell p1 u1).setCell p2 u2).cell? b0=some (cellOf (((w.setCell p0 u0).setCell p1 u1).setCell p2 u2) b0)∧(((w.setCell p0 u0).setCell p1 u1).setCell p2 u2).frozen? b0=false∧(((w.setCell p0 u0).setCell p1 u1).setCell p2 u2).cell? b1=some (cellOf (((w.setCell p0 u0).setCell p1 u1).setCell p2 u2) b1)∧(((w.setCell p0 u0).setCell p1 u1).setCell p2 u2).frozen? b1=false∧(((w.setCell p0 u0).setCell p1 u1).setCell p2 u2).cell? b2=some (cellOf (((w.setCell p0 u0).setCell p1 u1).setCell p2 u2) b2)∧(((w.setCell p0 u0).setCell p1 u1).setCell p2 u2).frozen? b2=false∧Below B w0 (((w.setCell p0 u0).setCell p1 u1).setCell p2 u2)∧B≤(((w.setCell p0 u0).setCell p1 u1).setCell p2 u2).heap.size:=(TT.put (B:=B) (w0:=w0) (l:=[(a0,v0),(a1,v1),(a2,v2)]) (m:=[b0,b1,b2]) (TT.put (B:=B) (w0:=w0) (l:=[(a0,v0),(a1,v1),(a2,v2)]) (m:=[b0,b1,b2]) (TT.put (B:=B) (w0:=w0) (l:=[(a0,v0),(a1,v1),(a2,v2)]) (m:=[b0,b1,b2]) h p0 u0 hp0 (by simp[*])) p1 u1 hp1 (by simp[*])) p2 u2 hp2 (by simp[*]))
theorem OwnQ.base {F:Nat→FP} {w:World} {B B' n:Nat} {v:Value} (h:OwnQ F w B v n) (hB:B'≤B):OwnQ F w B' v n:=by
 obtain⟨xs,h1,h2⟩:=h
 refine⟨xs,⟨⟨h1.1.1,?_⟩,h1.2⟩,h2⟩
 rcases h1.1.2 with h |⟨g',cap,cs,e,hB',hr⟩
 ·exact .inl h
 ·exact .inr ⟨g',cap,cs,e,Nat.le_trans hB hB',hr⟩
theorem OwnQ.imp {F G:Nat→FP} {w:World} {B n:Nat} {v:Value} (h:OwnQ F w B v n) (hi:∀ j,j<n→∀ s p k c t q m d,F j w s p k c t q m d→G j w s p k c t q m d):OwnQ G w B v n:=by
 obtain⟨xs,h1,h2⟩:=h
 refine⟨xs,h1,fun j hj=>?_⟩
 obtain⟨s,p,k,c,t,q,m,d,e0,e1,e2,e3,hf⟩:=h2 j hj
 exact⟨s,p,k,c,t,q,m,d,e0,e1,e2,e3,hi j hj _ _ _ _ _ _ _ _ hf⟩
theorem IsS.rat {z:Int} {w:World} {s:Bool} {p:Option Addr} {n c:Nat} {t:Bool} {q:Option Addr} {m d:Nat} (h:IsS z 1 w s p n c t q m d):IsQ (z:Rat) w s p n c t q m d:=by
 refine⟨?_,?_⟩
 ·rw[Rat.num_intCast];exact h.1
 ·rw[Rat.den_intCast];exact h.2.1
theorem ql_value {F:Nat→FP} {w:World} {v:Value} {n:Nat} (h:QL F w v n):∃ p c,v=.slice p n c:=by
 rcases h with⟨rfl,a,c,e⟩ |⟨g,o,cap,e,_⟩
 ·exact⟨a,c,e⟩
 ·exact⟨_,cap,e⟩
theorem c_CopyMatrixS (R C:Int) (v:Value) (n:Nat) (x y:Nat→Int) (w:World) (h:QL (fun j=>IsS (x j) (y j)) w v n) (hn:n≤1000000):
  Calls Tryz.prog 75 #[.agg #[.int .i64 R,.int .i64 C,v]] w fun e w'=>(∃ v',e=.returned (.agg #[.int .i64 R,.int .i64 C,v'])∧OwnQ (fun j=>IsS (x j) (y j)) w' w.heap.size v' n)∧Below w.heap.size w w':=by
 obtain⟨p,c,rfl⟩:=ql_value h
 have HCR:=Kh (fun W (hb:Below w.heap.size w W)=>c_CopyRatsS (.slice p n c) n x y W (h.keep (fun _=>IsS.solid _ _) hb) hn)
 clear h
 go_enter Tryz.func75,Tryz.ntmps75
 go_upto_region 1 with(fail)
 obtain⟨w0,hw0,X0,X1,hb0⟩:=bx2 w #[.int .i64 R,.int .i64 C,.slice p n c] 51 #[.int .i64 0,.int .i64 0,.slice none 0 0] 51
 rw[hw0]
 have hs0:w.heap.size≤w0.heap.size:=hb0.size
 have HX1:=Kh X1
 have HLT:=Kh X1.lt
 have HST0:=Kh (Stk.of (K:=NotU32) X1 (by intro v hv;simp at hv;rcases hv with rfl|rfl|rfl <;> exact fun _ h=>by cases h))
 clear hw0
 have hS0:=T3_3_next (Below.refl _ w0).drew ⟨X0.c0,X0.c1,X0.c2,X1.so 0,X1.free_ 0,X1.so 1,X1.free_ 1,X1.so 2,X1.free_ 2,hb0,Below.size (show Below w.heap.size w w0 from hb0)⟩
 clear X0 X1
 have M1:True:=trivial
 go_region_held3 (fun w1=>w1.cell? ⟨w.heap.size,0,none⟩=some (.int .i64 R)∧w1.cell? ⟨w.heap.size,1,none⟩=some (.int .i64 C)∧w1.cell? ⟨w.heap.size,2,none⟩=some (.slice p n c)∧w1.cell? ⟨w.heap.size+1,0,none⟩=some (cellOf w1 ⟨w.heap.size+1,0,none⟩)∧w1.frozen? ⟨w.heap.size+1,0,none⟩=false∧w1.cell? ⟨w.heap.size+1,1,none⟩=some (cellOf w1 ⟨w.heap.size+1,1,none⟩)∧w1.frozen? ⟨w.heap.size+1,1,none⟩=false∧w1.cell? ⟨w.heap.size+1,2,none⟩=some (cellOf w1 ⟨w.heap.size+1,2,none⟩)∧w1.frozen? ⟨w.heap.size+1,2,none⟩=false∧Below w.heap.size w w1∧w.heap.size≤w1.heap.size)
  (first|with_reducible exact hS0|with_reducible assumption |(refine T3_3_next (by with_reducible assumption) ?_;assumption) |(refine T3_3_put ?_ ?_ ?_ ?_ ?_ ?_ ?_ ?_ ?_ ?_ ?_ ?_ ?_ <;> first|assumption |(dsimp only;omega) |(simp;done)))
  (first
   |(go_at_call 13;(refine(HCR.out _ (T3_3_below (by with_reducible assumption))).mono ?_);rintro e w7 ⟨⟨v7,rfl,ho7⟩,hb7⟩;obtain⟨p7,c7,rfl⟩:=ql_value ho7.ql;have hbe:Below w0.heap.size w0 w7:=(by first|exact(Below.refl _ w0).drew.trans hb7|exact hb7);have HO7:=Kh (OwnQ.base ho7 (show w0.heap.size≤_ from by first|exact Nat.le_refl _ |(simp only[World.drew];omega)));have r0:w7.cell? ⟨w.heap.size+1,0,none⟩=some (.int .i64 0):=(bk HX1 hbe).at_ 0 rfl;have r1:w7.cell? ⟨w.heap.size+1,1,none⟩=some (.int .i64 0):=(bk HX1 hbe).at_ 1 rfl;have r2:w7.cell? ⟨w.heap.size+1,2,none⟩=some (.slice none 0 0):=(bk HX1 hbe).at_ 2 rfl;have HST:=Kh (HST0.out.next hbe);clear ho7 hbe))
 all_goals go_wp2
 all_goals (try simp only[Exit.inBlock,Exit.then])
 all_goals refine bodyPost_ret (by simp[results,Tryz.results75,go_sem,r0,r1,r2];try rfl) rfl ?_
 all_goals refine⟨⟨_,rfl,?_⟩,T3_3_below (by assumption)⟩
 all_goals exact((HO7.out.box (fun _=>IsS.solid _ _) (put3_32 HST.out (v0:=.int .i64 R) (v1:=.int .i64 C) (v2:=.slice p7 n c7) (fun _ h=>by cases h) (fun _ h=>by cases h)) (((but_put _ (w.heap.size+1) 0 (.int .i64 R)).trans (but_put _ (w.heap.size+1) 1 (.int .i64 C))).trans (but_put _ (w.heap.size+1) 2 (.slice p7 n c7))) (by have:=HLT.out;omega)).base hs0)
theorem c_Rational (R C:Nat) (g o cap n:Nat) (f:Nat→Int) (w:World) (h:∀ j,j<n→ZE (f j) w g (o+j*2)) (hg:g<w.heap.size) (hf:∀ j,j<n→nd (f j).natAbs≤1000) (hn:n≤100000):
  Calls Tryz.prog 34 #[.agg #[.int .i64 R,.int .i64 C,.slice (some ⟨g,o,none⟩) n cap]] w fun e w'=>(∃ v,e=.returned (.agg #[.int .i64 R,.int .i64 C,v])∧OwnQ (fun j=>IsQ (f j:Rat)) w' w.heap.size v n)∧Below w.heap.size w w':=by
 have HE:=Kh h
 have HF:=Kh hf
 clear h hf
 go_enter Tryz.func34,Tryz.ntmps34
 go_wp2_with fail
 obtain⟨wx,hwx,X0,X1,X2,hb0⟩:=bx3 w #[.int .i64 R,.int .i64 C,.slice (some ⟨g,o,none⟩) n cap] 76 #[.int .i64 0,.int .i64 0,.slice none 0 0] 51 #[.int .i64 R,.int .i64 C,.slice none 0 0] 51
 rw[hwx]
 obtain⟨bm,hbm⟩:∃ x,w.heap.size=x:=⟨_,rfl⟩
 obtain⟨gr,hgr⟩:∃ x,w.heap.size+1=x:=⟨_,rfl⟩
 obtain⟨ob,hob⟩:∃ x,w.heap.size+1+1=x:=⟨_,rfl⟩
 rw[hob]at X2 ⊢
 rw[hgr]at X1 ⊢
 rw[hbm]at X0 hb0 hg ⊢
 have HORD:=Kh (show bm<gr∧gr<ob by omega)
 have HBE:=Kh hbm
 have HBX:=Kh hb0
 have HX0:=Kh X0
 have HX1:=Kh X1
 obtain⟨BB,hBB⟩:∃ x,wx.heap.size=x:=⟨_,rfl⟩
 have HBB:=Kh hBB
 have HGS:=Kh (show ∀ j,Solid (IsS (f j) 1)from fun j=>IsS.solid _ _)
 have HM0:=Kh (show MatAt (fun j=>IsS (f j) 1) wx ob BB R C 0 from
  ⟨by rw[← hBB];exact X2.lt,Nat.le_of_eq hBB.symm,X2.at_ 0 rfl,X2.at_ 1 rfl,⟨none,0,X2.at_ 2 rfl,OwnQ.nil _ _ _⟩,X2.free_ 2,Stk.of X2 (by intro v hv;simp at hv;rcases hv with rfl|rfl|rfl <;> exact fun _ h=>by cases h)⟩)
 clear hwx hb0 X0 X1 X2 hbm hgr hob hBB
 go_loopw [4] (fun ii wr=>∃ k:Nat,k≤n∧ii=.int .i64 k∧MatAt (fun j=>IsS (f j) 1) wr ob BB R C k∧wx.grownBy wr (some ob)) (fun ii _=>n - (intOf ii).toNat)
 case atStart=>exact⟨0,Nat.zero_le _,rfl,HM0.out,but_below ob (Below.refl _ _)⟩
 case round=>
  obtain⟨k,hk,rfl,hmat,hgw⟩:=hrel
  obtain⟨we,rfl⟩:∃ we:World,we=wr:=⟨_,rfl⟩
  have HMT:=Kh hmat
  have HGW:=Kh hgw
  clear hmat hgw HM0
  have HBW:=Kh (show Below bm w we from below_but HBX.out HGW.out (by have:=HBB.out;have:=HMT.out.lt;have:=HORD.out;omega) (by have:=HORD.out;omega))
  have hne:bm≠ob:=by have:=HORD.out;omega
  have x2:=HGW.out.cell (HX0.out.at_ 2 rfl) (fun e=>by injection e with e;exact hne e)
  by_cases hlt:k<n
  ·have hki:(k:Int)<(n:Int):=by omega
   have hbw:=HBW.out
   rw[← HBE.out]at hbw
   obtain⟨s1,p1,n1,c1,a0,a1,hz⟩:=(HE.out k hlt).keep hbw
   have HZ:=Kh (show Zs we s1 p1 n1 c1 (f k)from hz)
   have HN1:=Kh (show n1≤1000 by have:=HF.out k hlt;rw[hz.2.1]at this;exact this)
   have HZ1:=Kh (fun W=>c_Z 1 W (by omega) (by omega))
   obtain⟨p,c,g2,xs,hK,hXX⟩:=HMT.out.c2
   have HKK:=Kh (show ∀ W,Below we.heap.size we W→OwnK NotInt W BB 35 4 (.slice p k c) k xs from fun W hb=>hK.keep hb)
   have HXK:=Kh (show ∀ W,Below we.heap.size we W→∀ j,j<k→QX (IsS (f j) 1) W xs (j*4)from fun W hb j hj=>(hXX j hj).i32 (HGS.out j) (I32.below hb))
   have HCL:=Kh (show ∀ W,Below we.heap.size we W→W.cell? ⟨ob,2,none⟩=some (.slice p k c)from fun W hb=>cell_next hb g2)
   have hobl:ob<we.heap.size:=Nat.lt_of_lt_of_le HMT.out.lt HMT.out.hB
   have hgob:g≠ob:=by have:=HORD.out;omega
   have HGO:=Kh (And.intro hgob hne)
   clear hbw hK hXX hz
   go_upto_region 5 with(fail)
   refine rgB (fun W=>W.cell? ⟨bm,2,none⟩=some (.slice (some ⟨g,o,none⟩) n cap)∧W.cell? ⟨g,o+k*2,none⟩=some (.bool s1)∧W.cell? ⟨g,o+k*2+1,none⟩=some (.slice p1 n1 c1)∧W.cell? ⟨ob,2,none⟩=some (.slice p k c)∧W.frozen? ⟨ob,2,none⟩=false) (fun W hb=>⟨cnx hb x2,cnx hb a0,cnx hb a1,cnx hb g2,frozen_keep hb (by rw[g2];rfl) (HMT.out.fr)⟩) (fun HSE hHeld0=>?_)
   clear x2 a0 a1
   refine tkE 0 ?_;refine tkE 1 ?_;refine tkE 2 ?_;refine tkE 3 ?_;refine tkE 4 ?_;refine tkE 5 ?_;refine tkE 6 ?_
   refine stE 7 rfl (fun K hK=>?_)
   focus(go_simp;(with_reducible refine(HZ1.out _).mono ?_);rintro e w5 ⟨⟨s5,p5,n5,c5,rfl,hz5⟩,hb5⟩;have HB5:=Kh ((Below.refl _ we).drew.trans hb5:Below we.heap.size we w5);have HQ5:=Kh (show IsS (f k) 1 w5 s1 p1 n1 c1 s5 p5 n5 c5 from⟨HZ.out.keep HB5.out,hz5,HN1.out,by have:=hz5.2.1;have h2:nd (1:Int).natAbs≤1:=(by decide +kernel);omega⟩);clear hz5 hb5;(first|with_reducible refine hK.out _ _ ?_ (fun hHeld1=>?_) |(go_wp2_with fail;with_reducible refine hK.out _ _ ?_ (fun hHeld1=>?_))))
   focus((try dsimp only);exact HSE.out _ HB5.out)
   focus(clear hK K;(try simp only[Act.put,lsa,lsz,lss]))
   refine tkE 8 ?_
   refine stE 9 rfl (fun K hK=>?_)
   focus(go_simp;refine hK.out _ _ ?_ (fun hHeld2=>?_))
   focus((try dsimp only);exact HSE.out _ (HB5.out.alloc HB5.out.size _))
   focus(clear hK K;(try simp only[Act.put,lsa,lsz,lss]))
   refine stE 10 rfl (fun K hK=>?_)
   focus(refine step_app2 (W:=w5) NotInt rfl (.tmp 18) (.tmp 26) _ 35 rfl Tryz.underlying24 ratInfo rfl (by decide) BB k (.slice p k c) xs [.bool s1,.slice p1 n1 c1,.bool s5,.slice p5 n5 c5] (by rfl) (HKK.out _ HB5.out) (by rfl) rfl (one4 _ _ _ _ _ _ _ _) (by omega) (by omega) (Nat.le_trans HMT.out.hB HB5.out.size) (ni4 _ _ _ _ _ _ _ _) niz ?_;intro v9 w9 hown9 hgr9 hat9;obtain⟨p9,c9,rfl⟩:=own_slice hown9.1;have HO9:=Kh (OwnQ.push (F:=fun j=>IsS (f j) 1) (W:=w5) HGS.out (HKK.out _ HB5.out) (HXK.out _ HB5.out) HQ5.out hown9 hgr9);obtain⟨d2,df,hm9⟩:=MatAt.more HGS.out (HMT.out.keep HGS.out HB5.out) (HCL.out _ HB5.out) (HKK.out _ HB5.out).1 HO9.out hgr9;have HM9:=Kh hm9;have HB9:=Kh (show Below BB we w9 from own_below (HB5.out.mono HMT.out.hB) (HKK.out _ HB5.out).1 hgr9 (Nat.le_refl _) (Nat.le_trans HMT.out.hB HB5.out.size));have HSP:=Kh (And.intro d2 df);have HG9:=Kh ((grown_own (HGW.out.trans (but_below ob HB5.out)) hgr9 HBB.out.symm (fun b hb=>own_ge (HKK.out _ HB5.out).1 hb.symm)).trans (but_put w9 ob 2 (.slice p9 (k+1) c9)));clear hown9 hgr9 hat9 hm9;(first|with_reducible refine hK.out _ _ ?_ (fun hHeld3=>?_) |(go_wp2_with fail;with_reducible refine hK.out _ _ ?_ (fun hHeld3=>?_))))
   focus((try dsimp only);exact⟨(HB9.out.cell (p:=⟨bm,2,none⟩) (by have:=HMT.out.lt;have:=HORD.out;show bm<BB;omega)).trans (HSE.out _ (Below.refl _ we)).1,(HB9.out.cell (p:=⟨g,o+k*2,none⟩) (by have:=HMT.out.lt;have:=HORD.out;show g<BB;omega)).trans (HSE.out _ (Below.refl _ we)).2.1,(HB9.out.cell (p:=⟨g,o+k*2+1,none⟩) (by have:=HMT.out.lt;have:=HORD.out;show g<BB;omega)).trans (HSE.out _ (Below.refl _ we)).2.2.1,HSP.out⟩)
   focus(clear hK K;(try simp only[Act.put,lsa,lsz,lss]))
   refine tkE 11 ?_
   refine laE 12 rfl (fun K hK=>?_)
   go_simp
   refine hK.out _ _ ?_
   clear hK K
   (try simp only[Act.put,lsa,lsz,lss])
   all_goals go_wp2
   all_goals go_roundw
   all_goals first
    | exact⟨k+1,by omega,by go_num,HM9.out,HG9.out⟩
    |(simp[intOf];omega)
  ·obtain rfl:n=k:=by omega
   obtain⟨p,c,g2,hOQ⟩:=HMT.out.c2
   have a0:=HMT.out.c0
   have a1:=HMT.out.c1
   have HCM:=Kh (c_CopyMatrixS R C (.slice p n c) n f (fun _=>1) we hOQ.ql (by omega))
   have hgo:gr≠ob:=by have:=HORD.out;omega
   have x0:=HGW.out.cell (HX1.out.at_ 0 rfl) (fun e=>by injection e with e;exact hgo e)
   have x1:=HGW.out.cell (HX1.out.at_ 1 rfl) (fun e=>by injection e with e;exact hgo e)
   have x3:=HGW.out.cell (HX1.out.at_ 2 rfl) (fun e=>by injection e with e;exact hgo e)
   have hblk:=HGW.out.block gr (by rw[HBB.out];have:=HORD.out;have:=HMT.out.lt;omega) (fun e=>by injection e with e;exact hgo e)
   have HF0:=Kh ((World.frozen?_of_block (a:=⟨gr,0,none⟩) hblk).trans (HX1.out.free_ 0))
   have HF1:=Kh ((World.frozen?_of_block (a:=⟨gr,1,none⟩) hblk).trans (HX1.out.free_ 1))
   have HF2:=Kh ((World.frozen?_of_block (a:=⟨gr,2,none⟩) hblk).trans (HX1.out.free_ 2))
   have hstB:Stk NotU32 wx gr:=Stk.of HX1.out (by intro v hv;simp at hv;rcases hv with rfl|rfl|rfl <;> exact fun _ h=>by cases h)
   have HST:=Kh (show Stk NotU32 we gr from⟨Nat.lt_of_lt_of_le hstB.1 HGW.out.size,fun i u hu=>hstB.2 i u ((World.cell?_of_block (a:=⟨gr,i,none⟩) hblk).symm.trans hu)⟩)
   have HR:=Kh (And.intro x0 (And.intro x1 x3))
   have hgrl:gr<we.heap.size:=HST.out.1
   clear x0 x1 x3 hblk hstB hOQ
   go_wp2_with fail
   refine HCM.out.mono ?_
   rintro e w7 ⟨⟨v7,rfl,ho7⟩,hb7⟩
   obtain⟨p7,c7,rfl⟩:=ql_value ho7.ql
   have r0:=cell_next hb7 HR.out.1
   have r1:=cell_next hb7 HR.out.2.1
   have r2:=cell_next hb7 HR.out.2.2
   have f0:=frozen_keep hb7 (by rw[HR.out.1];rfl) HF0.out
   have f1:=frozen_keep hb7 (by rw[HR.out.2.1];rfl) HF1.out
   have f2:=frozen_keep hb7 (by rw[HR.out.2.2];rfl) HF2.out
   have HE3:=Kh (put3_at (w:=w7) (R:=gr) (v0:=.int .i64 (R:Int)) (v1:=.int .i64 (C:Int)) (v2:=.slice p7 n c7) (by rw[r0];rfl) (by rw[r1];rfl) (by rw[r2];rfl))
   have HI3:=Kh (put3_32 (HST.out.next hb7) (v0:=.int .i64 (R:Int)) (v1:=.int .i64 (C:Int)) (v2:=.slice p7 n c7) (fun _ h=>by cases h) (fun _ h=>by cases h))
   have HG3:=Kh (((but_put w7 gr 0 (.int .i64 (R:Int))).trans (but_put _ gr 1 (.int .i64 (C:Int)))).trans (but_put _ gr 2 (.slice p7 n c7)))
   have HO7:=Kh ho7
   have HB7:=Kh (show Below bm w w7 from HBW.out.trans (hb7.mono (by have:=HBW.out.size;have:=HBE.out;omega)))
   clear ho7 hb7
   go_wp2
   have e0:=HE3.out.1
   have e1:=HE3.out.2.1
   have e2:=HE3.out.2.2
   try simp only[Exit.inBlock,Exit.then]
   refine bodyPost_ret (by simp[results,Tryz.results34,go_sem,e0,e1,e2];try rfl) rfl ?_
   refine⟨⟨_,rfl,?_⟩,?_⟩
   ·exact((HO7.out.box (fun _=>IsS.solid _ _) HI3.out HG3.out hgrl).base (by have:=HBW.out.size;have:=HBE.out;omega)).imp (fun j _ s p k c t q m d h=>IsS.rat h)
   ·have h9:=below_but HB7.out HG3.out (by have:=HB7.out.size;have:=HBE.out;omega) (show bm≤gr by have:=HORD.out;omega)
    rw[← HBE.out]at h9
    exact h9
theorem c_sNormalQ (s:Bool) (p:Option Addr) (n c:Nat) (t:Bool) (q:Option Addr) (m d:Nat) (x:Rat) (w:World) (h:Qs w s p n c t q m d x) (hx:hq x≤1000000000):
  Calls Tryz.prog 116 #[.agg #[.bool s,.slice p n c,.bool t,.slice q m d]] w fun e w'=>RetQ w' e x∧Below w.heap.size w w':=by
 have h1:=c_sNormal s p n c x.num t q m d x.den w h.1.raw h.2.raw (by have:=h.sizes;omega) (by have:=h.sizes;omega)
 rw[rat_self]at h1
 exact h1
theorem c_Zeros09 (n:Nat) (w:World) (hn:n≤1000000):
  Calls Tryz.prog 173 #[.int .i64 n] w fun e w'=>(∃ v,e=.returned v∧OwnQ (fun _=>IsQ 0) w' w.heap.size v n)∧Below w.heap.size w w':=by
 have HN:=Kh (OwnQ.nil (fun _=>IsQ 0) w w.heap.size)
 go_enter Tryz.func173,Tryz.ntmps173
 go_wp2
 go_loopw [3,4] (fun v i wr=>∃ k:Nat,k≤n∧i=.int .i64 k∧OwnQ (fun _=>IsQ 0) wr w.heap.size v k∧Below w.heap.size w wr) (fun _ i _=>n - (intOf i).toNat)
 case atStart=>exact⟨0,Nat.zero_le _,rfl,HN.out,Below.refl _ _⟩
 case round=>
  obtain⟨k,hk,rfl,ho,hb⟩:=hrel
  have HO:=Kh ho
  have HB:=Kh hb
  clear ho hb HN
  by_cases hlt:k<n
  ·go_wp2_with fail
   refine(c_sOf 0 wr (by omega) (by omega)).mono ?_
   rintro e w2 ⟨⟨s1,p1,n1,c1,t1,q1,m1,d1,rfl,hq⟩,hb2⟩
   obtain⟨xs,hK,hX⟩:=HO.out.keep (fun _=>IsQ.solid _) hb2
   have HK:=Kh hK
   have HX:=Kh hX
   have HQ:=Kh (show IsQ 0 w2 s1 p1 n1 c1 t1 q1 m1 d1 from hq)
   have HB1:=bt HB hb2
   clear hK hX hq hb2 HO HB
   go_wp2_with (at_builtin;refine wpl_app2 NotInt rfl (.tmp 10) (.tmp 12) _ 35 rfl Tryz.underlying24 ratInfo rfl (by decide) w.heap.size k u3 xs [.bool s1,.slice p1 n1 c1,.bool t1,.slice q1 m1 d1] rfl HK.out rfl rfl (one4 _ _ _ _ _ _ _ _) (by omega) (by omega) HB1.out.size (ni4 _ _ _ _ _ _ _ _) niz ?_;intro v' w' hown' hgr hat;have HO2:=Kh (OwnQ.push (W:=_) (fun _=>IsQ.solid _) HK.out HX.out HQ.out hown' hgr);have HB2:=Kh (own_below HB1.out HK.out.1 hgr (Nat.le_refl _) HB1.out.size);clear hown' hgr hat)
   go_roundw
   case rel=>exact⟨k+1,by omega,by go_num,HO2.out,HB2.out⟩
   case measure=>simp[intOf];omega
  ·obtain rfl:k=n:=by omega
   go_wp2
   go_ret
   exact⟨⟨_,rfl,HO.out⟩,HB.out⟩
theorem c_Combine (vx vy:Value) (n:Nat) (Fx Fy:Nat→Rat) (s:Bool) (p:Option Addr) (k0 c0:Nat) (t:Bool) (q:Option Addr) (m0 d0:Nat) (cc:Rat) (w:World) (hx:QL (fun j=>IsQ (Fx j)) w vx n) (hy:QL (fun j=>IsQ (Fy j)) w vy n) (hc:Qs w s p k0 c0 t q m0 d0 cc)
  (h0:0<n) (hn:n≤1000) (hcs:hq cc≤100000) (hxs:∀ j,hq (Fx j)≤100000) (hys:∀ j,hq (Fy j)≤100000):
  Calls Tryz.prog 172 #[vx,.agg #[.bool s,.slice p k0 c0,.bool t,.slice q m0 d0],vy] w fun e w'=>(∃ v',e=.returned v'∧OwnQ (fun j=>IsQ (Fx j+cc*Fy j)) w' w.heap.size v' n)∧Below w.heap.size w w':=by
 obtain⟨g1,o1,l1,rfl,hg1,r1⟩:=hx.resolve_left (fun h=>by omega)
 obtain⟨g2,o2,l2,rfl,hg2,r2⟩:=hy.resolve_left (fun h=>by omega)
 have HX:=Kh hxs
 have HY:=Kh hys
 have HC:=Kh hcs
 have HQC:=Kh hc
 have HR1:=Kh r1
 have HR2:=Kh r2
 have HG0:=Kh (And.intro hg1 hg2)
 clear hx hy hc hcs hxs hys r1 r2 hg1 hg2
 go_enter Tryz.func172,Tryz.ntmps172
 go_wp2_with fail
 obtain⟨w0,hw0,X0,hb0⟩:=bx1 w #[.bool s,.slice p k0 c0,.bool t,.slice q m0 d0] 35
 rw[hw0]
 obtain⟨bc,hbc⟩:∃ y,w.heap.size=y:=⟨_,rfl⟩
 have HBE:=Kh hbc
 rw[hbc]at X0 ⊢
 refine(c_sSignQ s p k0 c0 t q m0 d0 cc w0 (HQC.out.keep hb0) (by have:=HC.out;omega)).mono ?_
 rintro e w1 ⟨⟨sg,rfl,hsg⟩,hb1⟩
 have X1:=X0.below_ hb1 X0.lt
 have HB1:=Kh (hb0.trans (hb1.mono hb0.size))
 have HX1:=Kh X1
 obtain⟨B0,hB0⟩:∃ y,w1.heap.size=y:=⟨_,rfl⟩
 have HBC:=Kh (show bc<B0 from hB0▸X1.lt)
 have HB0:=Kh hB0
 have HB0L:=Kh (show w.heap.size≤B0 from hB0▸HB1.out.size)
 have HG:=Kh (show g1<B0∧g2<B0 from by have:=HG0.out;have:=HB0L.out;omega)
 have HR1:=Kh (fun j (hj:j<n)=>(HR1.out j hj).keep (IsQ.solid _) HB1.out)
 have HR2:=Kh (fun j (hj:j<n)=>(HR2.out j hj).keep (IsQ.solid _) HB1.out)
 have HQC1:=Kh (HQC.out.keep HB1.out)
 have HN:=Kh (OwnQ.nil (fun j=>IsQ (Fx j+cc*Fy j)) w1 B0)
 have HSG:=Kh hsg
 clear hw0 X0 hb0 hbc hb1 X1 hB0 hsg HG0
 obtain⟨nb,hnb⟩:∃ nb,(sg==0)=nb:=⟨_,rfl⟩
 have HNB:=Kh (show nb=true↔cc=0 by rw[← hnb,← HSG.out];simp)
 go_wp2_with fail
 go_loopw [7,9] (fun v ii wr=>∃ k:Nat,k≤n∧ii=.int .i64 k∧OwnQ (fun j=>IsQ (Fx j+cc*Fy j)) wr B0 v k∧Below B0 w1 wr∧I32 w1 wr) (fun _ ii _=>n - (intOf ii).toNat)
 case atStart=>exact⟨0,Nat.zero_le _,rfl,HN.out,Below.refl _ _,I32.refl _⟩
 case round=>
  obtain⟨k,hk,rfl,ho,hbw,h32⟩:=hrel
  obtain⟨we,rfl⟩:∃ we:World,we=wr:=⟨_,rfl⟩
  have HO:=Kh ho
  have HBW:=Kh hbw
  have H32:=Kh h32
  have HBS:=Kh (show B0≤we.heap.size from HB0.out▸hbw.size)
  clear HN
  by_cases hlt:k<n
  ·have hki:(k:Int)<(n:Int):=by omega
   obtain⟨s1,p1,n1,c1,t1,q1,m1,d1,a0,a1,a2,a3,hqx⟩:=QE.next (HR1.out k hlt) HG.out.1 h32 hbw
   obtain⟨s2,p2,n2,c2,t2,q2,m2,d2,b0,b1,b2,b3,hqy⟩:=QE.next (HR2.out k hlt) HG.out.2 h32 hbw
   have r0:=(hbw.cell (p:=⟨bc,0,none⟩) HBC.out).trans (HX1.out.at_ 0 rfl)
   have r1:=(hbw.cell (p:=⟨bc,1,none⟩) HBC.out).trans (HX1.out.at_ 1 rfl)
   have r2:=(hbw.cell (p:=⟨bc,2,none⟩) HBC.out).trans (HX1.out.at_ 2 rfl)
   have r3:=(hbw.cell (p:=⟨bc,3,none⟩) HBC.out).trans (HX1.out.at_ 3 rfl)
   have HQX:=Kh (show Qs we s1 p1 n1 c1 t1 q1 m1 d1 (Fx k)from hqx)
   have HQY:=Kh (show Qs we s2 p2 n2 c2 t2 q2 m2 d2 (Fy k)from hqy)
   have HQK:=Kh (show Qs we s p k0 c0 t q m0 d0 cc from HQC1.out.i32 h32)
   have HA:=Kh (show ∀ W,Below we.heap.size we W→(W.cell? ⟨g1,o1+k*4,none⟩=some (.bool s1)∧W.cell? ⟨g1,o1+k*4+1,none⟩=some (.slice p1 n1 c1)∧W.cell? ⟨g1,o1+k*4+2,none⟩=some (.bool t1)∧W.cell? ⟨g1,o1+k*4+3,none⟩=some (.slice q1 m1 d1))from fun W hb=>⟨cell_next hb a0,cell_next hb a1,cell_next hb a2,cell_next hb a3⟩)
   have HS1:=Kh (show ∀ W,Below B0 we W→(W.cell? ⟨g1,o1+k*4,none⟩=some (.bool s1)∧W.cell? ⟨g1,o1+k*4+1,none⟩=some (.slice p1 n1 c1)∧W.cell? ⟨g1,o1+k*4+2,none⟩=some (.bool t1)∧W.cell? ⟨g1,o1+k*4+3,none⟩=some (.slice q1 m1 d1)∧W.cell? ⟨g2,o2+k*4,none⟩=some (.bool s2)∧W.cell? ⟨g2,o2+k*4+1,none⟩=some (.slice p2 n2 c2)∧W.cell? ⟨g2,o2+k*4+2,none⟩=some (.bool t2)∧W.cell? ⟨g2,o2+k*4+3,none⟩=some (.slice q2 m2 d2)∧W.cell? ⟨bc,0,none⟩=some (.bool s)∧W.cell? ⟨bc,1,none⟩=some (.slice p k0 c0)∧W.cell? ⟨bc,2,none⟩=some (.bool t)∧W.cell? ⟨bc,3,none⟩=some (.slice q m0 d0))from fun W hb=>⟨(hb.cell (p:=⟨g1,o1+k*4,none⟩) HG.out.1).trans a0,(hb.cell (p:=⟨g1,o1+k*4+1,none⟩) HG.out.1).trans a1,(hb.cell (p:=⟨g1,o1+k*4+2,none⟩) HG.out.1).trans a2,(hb.cell (p:=⟨g1,o1+k*4+3,none⟩) HG.out.1).trans a3,(hb.cell (p:=⟨g2,o2+k*4,none⟩) HG.out.2).trans b0,(hb.cell (p:=⟨g2,o2+k*4+1,none⟩) HG.out.2).trans b1,(hb.cell (p:=⟨g2,o2+k*4+2,none⟩) HG.out.2).trans b2,(hb.cell (p:=⟨g2,o2+k*4+3,none⟩) HG.out.2).trans b3,(hb.cell (p:=⟨bc,0,none⟩) HBC.out).trans r0,(hb.cell (p:=⟨bc,1,none⟩) HBC.out).trans r1,(hb.cell (p:=⟨bc,2,none⟩) HBC.out).trans r2,(hb.cell (p:=⟨bc,3,none⟩) HBC.out).trans r3⟩)
   clear hbw h32 hqx hqy ho
   have HPLAIN:=Kh (show ∀ wz (hbz:Below we.heap.size we wz) (hz:Fx k+cc*Fy k=Fx k),Calls Tryz.prog 116 #[.agg #[.bool s1,.slice p1 n1 c1,.bool t1,.slice q1 m1 d1]] wz fun e w'=>RetQ w' e (Fx k+cc*Fy k)∧Below wz.heap.size wz w' from fun wz hbz hz=>by
    rw[hz]
    exact c_sNormalQ s1 p1 n1 c1 t1 q1 m1 d1 (Fx k) wz (HQX.out.keep hbz) (by have:=HX.out k;omega))
   cases nb with
   | true=>
    have hz:Fx k+cc*Fy k=Fx k:=by rw[HNB.out.1 rfl];grind
    go_wp2_with fail
    refine(HPLAIN.out we (Below.refl _ _) hz).mono ?_
    rintro e w5 ⟨⟨s5,p5,n5,c5,t5,q5,m5,d5,rfl,hq5⟩,hb5⟩
    obtain⟨xs,hK,hXX⟩:=HO.out.keep (fun _=>IsQ.solid _) hb5
    have HK:=Kh hK
    have HXX:=Kh hXX
    have HQ5:=Kh (show IsQ (Fx k+cc*Fy k) w5 s5 p5 n5 c5 t5 q5 m5 d5 from hq5)
    have HB5:=Kh hb5
    have HBX:=Kh (HBW.out.trans (hb5.mono HBS.out))
    have hB5:B0≤w5.heap.size:=Nat.le_trans HBS.out hb5.size
    clear hK hXX hq5 hb5 a0 a1 a2 a3 b0 b1 b2 b3 r0 r1 r2 r3 hz
    go_wp2_with (at_builtin;refine wpl_app2 NotInt rfl (.tmp 28) (.tmp 34) _ 35 rfl Tryz.underlying24 ratInfo rfl (by decide) B0 k u7 xs [.bool s5,.slice p5 n5 c5,.bool t5,.slice q5 m5 d5] rfl HK.out rfl rfl (one4 _ _ _ _ _ _ _ _) (by omega) (by omega) hB5 (ni4 _ _ _ _ _ _ _ _) niz ?_;intro v' w' hown' hgr hat;have HO2:=Kh (OwnQ.push (W:=_) (fun _=>IsQ.solid _) HK.out HXX.out HQ5.out hown' hgr);have HB2:=Kh (own_below HBX.out HK.out.1 hgr (Nat.le_refl _) hB5);have HI2:=Kh ((H32.out.trans (I32.below HB5.out)).trans (I32.grown (K:=NotInt) (fun x=>not_int32 x) HK.out.2 hgr));clear hown' hgr hat)
    go_roundw
    case rel=>exact⟨k+1,by omega,by go_num,HO2.out,HB2.out,HI2.out⟩
    case measure=>simp[intOf];omega
   | false=>
    have hc0':cc≠0:=fun e=>by have:=HNB.out.2 e;cases this
    have HCN:=Kh hc0'
    clear hc0'
    go_wp2_with fail
    refine(c_sSignQ s2 p2 n2 c2 t2 q2 m2 d2 (Fy k) we HQY.out (by have:=HY.out k;omega)).mono ?_
    rintro e w3 ⟨⟨sy,rfl,hsy⟩,hb3⟩
    have HSY:=Kh hsy
    have HB3:=Kh hb3
    have a0:=(HA.out w3 hb3).1
    have a1:=(HA.out w3 hb3).2.1
    have a2:=(HA.out w3 hb3).2.2.1
    have a3:=(HA.out w3 hb3).2.2.2
    clear hsy hb3 b0 b1 b2 b3 r0 r1 r2 r3
    by_cases hy0:sy=0
    ·have hyb:(sy==0)=true:=by rw[hy0];rfl
     have hz:Fx k+cc*Fy k=Fx k:=by rw[HSY.out.1 hy0];grind
     clear hy0
     go_wp2_with fail
     refine(HPLAIN.out w3 HB3.out hz).mono ?_
     rintro e w5 ⟨⟨s5,p5,n5,c5,t5,q5,m5,d5,rfl,hq5⟩,hb5⟩
     have HB5:=bt HB3 hb5
     obtain⟨xs,hK,hXX⟩:=HO.out.keep (fun _=>IsQ.solid _) HB5.out
     have HK:=Kh hK
     have HXX:=Kh hXX
     have HQ5:=Kh (show IsQ (Fx k+cc*Fy k) w5 s5 p5 n5 c5 t5 q5 m5 d5 from hq5)
     have HBX:=Kh (HBW.out.trans (HB5.out.mono HBS.out))
     have hB5:B0≤w5.heap.size:=Nat.le_trans HBS.out HB5.out.size
     clear hK hXX hq5 hb5 a0 a1 a2 a3 hz hyb
     go_wp2_with (at_builtin;refine wpl_app2 NotInt rfl (.tmp 28) (.tmp 34) _ 35 rfl Tryz.underlying24 ratInfo rfl (by decide) B0 k u7 xs [.bool s5,.slice p5 n5 c5,.bool t5,.slice q5 m5 d5] rfl HK.out rfl rfl (one4 _ _ _ _ _ _ _ _) (by omega) (by omega) hB5 (ni4 _ _ _ _ _ _ _ _) niz ?_;intro v' w' hown' hgr hat;have HO2:=Kh (OwnQ.push (W:=_) (fun _=>IsQ.solid _) HK.out HXX.out HQ5.out hown' hgr);have HB2:=Kh (own_below HBX.out HK.out.1 hgr (Nat.le_refl _) hB5);have HI2:=Kh ((H32.out.trans (I32.below HB5.out)).trans (I32.grown (K:=NotInt) (fun x=>not_int32 x) HK.out.2 hgr));clear hown' hgr hat)
     go_roundw
     case rel=>exact⟨k+1,by omega,by go_num,HO2.out,HB2.out,HI2.out⟩
     case measure=>simp[intOf];omega
    ·have hyb:(sy==0)=false:=beq_eq_false_iff_ne.2 hy0
     clear hy0
     obtain⟨xs,hKO,hXO⟩:=HO.out
     have HKO:=Kh (fun W (hb:Below we.heap.size we W)=>hKO.keep hb)
     have HXO:=Kh (fun W (hb:Below we.heap.size we W) j (hj:j<k)=>(hXO j hj).i32 (IsQ.solid _) (I32.below hb))
     have HMU:=Kh (fun W (hb:Below we.heap.size we W)=>c_sMulQ2 s p k0 c0 t q m0 d0 cc s2 p2 n2 c2 t2 q2 m2 d2 (Fy k) W (HQK.out.keep hb) (HQY.out.keep hb) (by have:=HC.out;omega) (by have:=HY.out k;omega))
     have HAD:=Kh (fun W s5 p5 n5 c5 t5 q5 m5 d5 (hb:Below we.heap.size we W) (hq5:Qs W s5 p5 n5 c5 t5 q5 m5 d5 (cc*Fy k))=>c_sAdd s1 p1 n1 c1 t1 q1 m1 d1 (Fx k) s5 p5 n5 c5 t5 q5 m5 d5 (cc*Fy k) W (HQX.out.keep hb) hq5 (by have:=HX.out k;omega) (by have h1:=hq_mul cc (Fy k);have h2:=HC.out;have h3:=HY.out k;omega))
     have hS0:=HS1.out _ (HB3.out.mono HBS.out).drew
     have HK1:=Kh (show ∀ wb,Below w3.drew.heap.size w3.drew wb→Below we.heap.size we wb from fun wb hb=>HB3.out.trans (((Below.refl _ w3).drew.trans hb).mono HB3.out.size))
     have HK2:=Kh (show ∀ wa wb,Below we.heap.size we wa→Below wa.heap.size wa wb→Below we.heap.size we wb from fun wa wb h1 h2=>h1.trans (h2.mono h1.size))
     have HDR:=Kh (show Below we.heap.size we w3.drew from HB3.out.drew)
     clear hKO hXO a0 a1 a2 a3
     have M1:True:=trivial
     go_upto_region 8 with(fail)
     go_region_held3 (fun W=>W.cell? ⟨g1,o1+k*4,none⟩=some (.bool s1)∧W.cell? ⟨g1,o1+k*4+1,none⟩=some (.slice p1 n1 c1)∧W.cell? ⟨g1,o1+k*4+2,none⟩=some (.bool t1)∧W.cell? ⟨g1,o1+k*4+3,none⟩=some (.slice q1 m1 d1)∧W.cell? ⟨g2,o2+k*4,none⟩=some (.bool s2)∧W.cell? ⟨g2,o2+k*4+1,none⟩=some (.slice p2 n2 c2)∧W.cell? ⟨g2,o2+k*4+2,none⟩=some (.bool t2)∧W.cell? ⟨g2,o2+k*4+3,none⟩=some (.slice q2 m2 d2)∧W.cell? ⟨bc,0,none⟩=some (.bool s)∧W.cell? ⟨bc,1,none⟩=some (.slice p k0 c0)∧W.cell? ⟨bc,2,none⟩=some (.bool t)∧W.cell? ⟨bc,3,none⟩=some (.slice q m0 d0))
      (first|with_reducible exact hS0|exact HS1.out _ HB9.out|exact HS1.out _ (HBA.out.mono HBS.out)|exact HS1.out _ ((HBA.out.mono HBS.out).alloc (Nat.le_trans HBS.out HBA.out.size) _) |(exfalso;assumption))
      (first
       |(refine step_app2 NotInt rfl (.tmp 36) (.tmp 48) _ 35 rfl Tryz.underlying24 ratInfo rfl (by decide) B0 k u7 xs [.bool s6,.slice p6 n6 c6,.bool t6,.slice q6 m6 d6] rfl (HKO.out _ HBA.out) rfl rfl (one4 _ _ _ _ _ _ _ _) (by omega) (by omega) (Nat.le_trans HBS.out HBA.out.size) (ni4 _ _ _ _ _ _ _ _) niz ?_;intro v9 w9 hown9 hgr9 hat9;have HO9:=Kh (OwnQ.push (W:=_) (fun _=>IsQ.solid _) (HKO.out _ HBA.out) (HXO.out _ HBA.out) hq6' hown9 hgr9);have H329:=Kh ((H32.out.trans (I32.below HBA.out)).trans (I32.grown (K:=NotInt) (fun x=>not_int32 x) (HKO.out _ HBA.out).2 hgr9));have HB9:=Kh (own_below (HBA.out.mono HBS.out) (HKO.out _ HBA.out).1 hgr9 (Nat.le_refl _) (Nat.le_trans HBS.out HBA.out.size));clear hown9 hgr9 hat9)
       |(go_at_call 52;(with_reducible refine(HMU.out _ HDR.out).mono ?_);rintro e w7 ⟨⟨s5,p5,n5,c5,t5,q5,m5,d5,rfl,hq5⟩,hb7⟩;have HBA:=Kh (HK1.out _ hb7))
       |(go_at_call 67;(with_reducible refine(HAD.out _ _ _ _ _ _ _ _ _ HBA.out hq5).mono ?_);rintro e w8 ⟨⟨s6,p6,n6,c6,t6,q6,m6,d6,rfl,hq6⟩,hb8⟩;have hq6':IsQ (Fx k+cc*Fy k) w8 s6 p6 n6 c6 t6 q6 m6 d6:=hq6;have HBA:=Kh (HK2.out _ _ HBA.out hb8)))
     all_goals go_wp2
     all_goals go_roundw
     all_goals first
      | exact⟨k+1,by omega,by go_num,HO9.out,HBW.out.trans HB9.out,H329.out⟩
      |(simp[intOf];omega)
  ·obtain rfl:n=k:=by omega
   clear hbw h32 ho
   go_wp2
   go_ret
   exact⟨⟨_,rfl,HO.out.base HB0L.out⟩,HB1.out.trans (HBW.out.mono HB0L.out)⟩
theorem c_cleared (vr vp:Value) (n c:Nat) (Fr Fp:Nat→Rat) (w:World) (hr:RowV Fr n w vr) (hp:RowV Fp n w vp) (hc:c<n) (hn:n≤1000) (hrs:∀ j,hq (Fr j)≤10000) (hps:∀ j,hq (Fp j)≤10000):
  Calls Tryz.prog 175 #[vr,vp,.int .i64 c] w fun e w'=>(∃ v',e=.returned v'∧RowV (fun q=>Fr q+-(Fr c)*Fp q) n w' v')∧Below w.heap.size w w':=by
 have HVR:=Kh hr
 have HVP:=Kh hp
 obtain⟨g1,o1,l1,rfl,hg1,r1⟩:=hr.2.resolve_left (fun h=>by omega)
 obtain⟨⟨pp,cp,rfl⟩,_⟩:=hp
 obtain⟨s1,p1,n1,c1,t1,q1,m1,d1,a0,a1,a2,a3,hqx⟩:=r1 c hc
 have hci:(c:Int)<(n:Int):=by omega
 have HQX:=Kh (show Qs w s1 p1 n1 c1 t1 q1 m1 d1 (Fr c)from hqx)
 have HX:=Kh hrs
 have HP:=Kh hps
 clear hr r1 hqx hrs hps hg1
 go_enter Tryz.func175,Tryz.ntmps175
 go_wp2_with fail
 refine(c_sSignQ s1 p1 n1 c1 t1 q1 m1 d1 (Fr c) w HQX.out (by have:=HX.out c;omega)).mono ?_
 rintro e w1 ⟨⟨sg,rfl,hsg⟩,hb1⟩
 have HB1:=Kh hb1
 have HSG:=Kh hsg
 have a0:=cell_next hb1 a0
 have a1:=cell_next hb1 a1
 have a2:=cell_next hb1 a2
 have a3:=cell_next hb1 a3
 clear hb1 hsg
 by_cases h0:sg=0
 ·have hb:(sg==0)=true:=by rw[h0];rfl
  have HZ:=Kh (HSG.out.1 h0)
  clear h0
  go_wp2
  go_ret
  exact⟨⟨_,rfl,(HVR.out.keep HB1.out).congr (fun q _=>by rw[HZ.out];grind)⟩,HB1.out⟩
 ·have hb:(sg==0)=false:=beq_eq_false_iff_ne.2 h0
  clear h0
  go_wp2_with fail
  refine(c_sNegQ s1 p1 n1 c1 t1 q1 m1 d1 (Fr c) w1 (HQX.out.keep HB1.out) (by have:=HX.out c;omega)).mono ?_
  rintro e w2 ⟨⟨s2,p2,n2,c2,t2,q2,m2,d2,rfl,hq2⟩,hb2⟩
  have HB2:=bt HB1 hb2
  have HQ2:=Kh hq2
  clear hb2 hq2 a0 a1 a2 a3
  go_wp2_with fail
  refine(c_Combine _ _ n Fr Fp s2 p2 n2 c2 t2 q2 m2 d2 (-(Fr c)) w2 (HVR.out.keep HB2.out).2 (HVP.out.keep HB2.out).2 HQ2.out (by omega) hn (by rw[hq_neg];have:=HX.out c;omega) (fun j=>by have:=HX.out j;omega) (fun j=>by have:=HP.out j;omega)).mono ?_
  rintro e w3 ⟨⟨v3,rfl,ho⟩,hb3⟩
  have HB3:=bt HB2 hb3
  have HO:=Kh ho
  clear hb3 ho
  go_wp2
  go_ret
  exact⟨⟨_,rfl,ql_value HO.out.ql,HO.out.ql⟩,HB3.out⟩
end Go.Proofs.YthikonjlgljikaaGreatDoor
