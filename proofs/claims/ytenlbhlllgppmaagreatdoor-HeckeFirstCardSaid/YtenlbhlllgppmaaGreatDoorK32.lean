/- Contract of manin.Relations: the relations between Manin symbols. -/
import Derived.Test.YtenlbhlllgppmaaGreatDoorK13
import Derived.Test.YtenlbhlllgppmaaGreatDoorK29
import Derived.Test.YtenlbhlllgppmaaGreatDoorK27
import Derived.Test.YtenlbhlllgppmaaGreatDoorK31
set_option linter.unusedSimpArgs false
set_option maxRecDepth 100000
set_option maxHeartbeats 8000000
namespace Go.Proofs.YtenlbhlllgppmaaGreatDoor
open Go.RowKit
def rowT (n wt:Nat) (L:List Nat) (f:Nat→Nat×Int) (r:Nat) (gs:List M4):Nat→Nat→Int
 | 0,k=>if k=r then 1 else 0
 | t+1,k=>rowT n wt L f r gs t k+mvd n wt L f (r / L.length) (r % L.length) (gs.getD t (0,0,0,0)) k
def gsOf (q:Nat):List M4:=if q=0 then [gTurn]else [gThird,gTwice]
theorem rel_rowT {n wt:Nat} {L:List Nat} {f:Nat→Nat×Int} {q r:Nat} (k:Nat) (hq:q<2) (hr:r<(wt+1)*L.length):relE n wt L f (q*((wt+1)*L.length)+r) k=rowT n wt L f r (gsOf q) (gsOf q).length k:=by
 rcases(by omega:q=0∨q=1)with rfl|rfl
 ·unfold relE;rw[Nat.zero_mul,Nat.zero_add,if_pos hr];rfl
 ·unfold relE;rw[Nat.one_mul,if_neg (by omega),Nat.add_sub_cancel_left];rfl
def GOk (g:M4):Prop:=(-1≤g.1∧g.1≤1)∧(-1≤g.2.1∧g.2.1≤1)∧(-1≤g.2.2.1∧g.2.2.1≤1)∧(-1≤g.2.2.2∧g.2.2.2≤1)
theorem gsOf_ok (q t:Nat):GOk ((gsOf q).getD t (0,0,0,0)):=by
 unfold gsOf
 split
 ·rcases t with _|t
  ·exact(show GOk gTurn by unfold GOk;decide)
  ·exact(show GOk (0,0,0,0)by unfold GOk;decide)
 ·rcases t with _|_|t
  ·exact(show GOk gThird by unfold GOk;decide)
  ·exact(show GOk gTwice by unfold GOk;decide)
  ·exact(show GOk (0,0,0,0)by unfold GOk;decide)
theorem gsOf_length (q:Nat):(gsOf q).length≤2:=by unfold gsOf;split <;> decide
theorem rowT_small {n wt:Nat} {L:List Nat} {f:Nat→Nat×Int} {r:Nat} {gs:List M4} (hf:TabOk L.length f) (hg:∀ t,GOk (gs.getD t (0,0,0,0))) (hw:wt≤22) (t k:Nat):(rowT n wt L f r gs t k).natAbs≤1+t*4194304:=by
 induction t with
 | zero=>unfold rowT;split <;> simp
 | succ t ih=>
  unfold rowT
  have hp:2 ^ wt≤4194304:=Nat.le_trans (Nat.pow_le_pow_right (by decide) hw) (by decide)
  obtain⟨h1,h2,h3,h4⟩:=hg t
  have h:=mvd_small (n:=n) (w:=wt) (L:=L) (i:=r / L.length) (j:=r % L.length) (g:=gs.getD t (0,0,0,0)) hf (by omega) (by omega) k
  omega
theorem nd_small {x:Int} (h:x.natAbs≤1000000000):nd x.natAbs≤1:=nd_le.2 (show x.natAbs<4294967296 ^ 1 by omega)
def addZ (F Y:Nat→Int) (k:Nat):Nat→Int:=fun j=>if j<k then F j+Y j else F j
theorem addZ_zero (F Y:Nat→Int) (j:Nat):addZ F Y 0 j=F j:=by unfold addZ;rw[if_neg (Nat.not_lt_zero j)]
theorem addZ_at (F Y:Nat→Int) (k:Nat):addZ F Y k k=F k:=by unfold addZ;rw[if_neg (Nat.lt_irrefl k)]
theorem addZ_put (F Y:Nat→Int) (k:Nat):addZ F Y (k+1) k=F k+Y k:=by unfold addZ;rw[if_pos (Nat.lt_succ_self k)]
theorem addZ_far {F Y:Nat→Int} {k j:Nat} (h:j≠k):addZ F Y k j=addZ F Y (k+1) j:=by
 unfold addZ
 by_cases hj:j<k
 ·rw[if_pos hj,if_pos (by omega)]
 ·rw[if_neg hj,if_neg (by omega)]
theorem addZ_skip {F Y:Nat→Int} {k:Nat} (h:Y k=0) (j:Nat):addZ F Y k j=addZ F Y (k+1) j:=by
 by_cases hj:j=k
 ·subst hj;rw[addZ_at,addZ_put,h,Int.add_zero]
 ·exact addZ_far hj
theorem addZ_done {F Y:Nat→Int} {k j:Nat} (h:j<k):addZ F Y k j=F j+Y j:=by unfold addZ;rw[if_pos h]
theorem OwnZ.ret {f:Nat→Int} {w:World} {B n:Nat} {v:Value} (h:OwnZ f w B v n) (h0:0<n):∃ g cap,v=.slice (some ⟨g,0,none⟩) n cap∧n≤cap∧cap≤9223372036854775807∧B≤g∧g<w.heap.size∧∀ j,j<n→ZE (f j) w g (j*2):=by
 obtain⟨xs,h1,h2⟩:=h
 rcases h1.1.2 with⟨_,e2⟩ |⟨g,cap,cs,e1,hB,hg,hn,hcm,hcs,_⟩
 ·omega
 ·have hs:=h1.2 g (by rw[e1];rfl)
  have h3:=h1.1
  subst e1
  refine⟨g,cap,rfl,hn,by simp only[maxLen]at hcm;omega,hB,hs.1,fun j hj=>?_⟩
  obtain⟨s,p,n',c,e0,e1,e4⟩:=h2 j hj
  exact⟨s,p,n',c,own_read h3 e0,own_read h3 e1,e4⟩
theorem OwnZ.congr {f f':Nat→Int} {w:World} {B n:Nat} {v:Value} (h:OwnZ f w B v n) (e:∀ j,j<n→f j=f' j):OwnZ f' w B v n:=by
 obtain⟨xs,h1,h2⟩:=h
 exact⟨xs,h1,fun j hj=>by rw[← e j hj];exact h2 j hj⟩
theorem OwnZ.slice {f:Nat→Int} {w:World} {B n:Nat} {v:Value} (h:OwnZ f w B v n):∃ p c,v=.slice p n c:=by
 obtain⟨xs,h1,_⟩:=h
 exact own_slice h1.1
theorem OwnZ.box {f:Nat→Int} {w w':World} {B n G:Nat} {v:Value} (h:OwnZ f w B v n) (h32:I32 w w') (hg:w.grownBy w' (some G)) (hG:G<B):OwnZ f w' B v n:=by
 obtain⟨xs,h1,h2⟩:=h
 have hne:∀ g,v.ownBlock=some g→some g≠some G:=fun g e e2=>by
  have:=own_ge h1.1 e.symm
  injection e2 with e2;omega
 refine⟨xs,⟨h1.1.kept hg ?_,fun g e=>?_⟩,fun j hj=>(h2 j hj).i32 h32⟩
 ·cases hv:v.ownBlock with
  | none=>exact .inl rfl
  | some g=>exact .inr (hne g hv)
 ·have hs:=h1.2 g e
  have hb:=hg.block g hs.1 (hne g e)
  exact⟨Nat.lt_of_lt_of_le hs.1 hg.size,fun i u hu=>hs.2 i u ((World.cell?_of_block (a:=⟨g,i,none⟩) hb).symm.trans hu)⟩
structure OutAt (F:Nat→Int) (w:World) (go B C2 C m:Nat):Prop where
 lt:go<B
 hB:B≤w.heap.size
 c0:w.cell? ⟨go,0,none⟩=some (.int .i64 (C2:Int))
 c1:w.cell? ⟨go,1,none⟩=some (.int .i64 (C:Int))
 c2:∃ p c,w.cell? ⟨go,2,none⟩=some (.slice p m c)∧OwnZ F w B (.slice p m c) m
 fr:w.frozen? ⟨go,2,none⟩=false
 stk:Stk NotU32 w go
theorem OutAt.keep {F:Nat→Int} {w w':World} {go B C2 C m:Nat} (h:OutAt F w go B C2 C m) (hb:Below w.heap.size w w'):OutAt F w' go B C2 C m:=by
 obtain⟨p,c,e2,h2⟩:=h.c2
 exact⟨h.lt,Nat.le_trans h.hB hb.size,cell_next hb h.c0,cell_next hb h.c1,⟨p,c,cell_next hb e2,h2.keep hb⟩,frozen_keep hb (by rw[e2];rfl) h.fr,h.stk.next hb⟩
theorem grown_own {wB W w':World} {go B:Nat} {v:Value} (h:wB.grownBy W (some go)) (hg:W.grownBy w' v.ownBlock) (hB:B=wB.heap.size) (hge:∀ b,v.ownBlock=some b→B≤b):wB.grownBy w' (some go):=
 ⟨hg.os.trans h.os,hg.tape.trans h.tape,hg.output.trans h.output,Nat.le_trans h.size hg.size,fun k hk hne=>(hg.block k (Nat.lt_of_lt_of_le hk h.size) (fun e=>by have:=hge k e.symm;omega)).trans (h.block k hk hne)⟩
theorem OutAt.more {F r:Nat→Int} {W w':World} {go B C2 C m k g:Nat} {p:Option Addr} {c:Nat} {p':Option Addr} {c':Nat} {xs:List Value} (h:OutAt F W go B C2 C m) (hv:W.cell? ⟨go,2,none⟩=some (.slice p m c)) (h1:OwnK NotInt W B 84 2 (.slice p m c) m xs) (h2:∀ j,j<m→ZX (F j) W xs (j*2))
  (hr:ZRow r W g k k) (h3:OwnK NotInt w' B 84 2 (.slice p' (m+k) c') (m+k) (xs++rowCells W g (k*2))) (hg:W.grownBy w' (Value.slice p m c).ownBlock) (e2:∀ j,j<k→F (m+j)=r j):
  w'.cell? ⟨go,2,none⟩=some (.slice p m c)∧w'.frozen? ⟨go,2,none⟩=false∧OutAt F (w'.setCell ⟨go,2,none⟩ (.slice p' (m+k) c')) go B C2 C (m+k):=by
 have hne:some go≠(Value.slice p m c).ownBlock:=fun e=>by
  have:=own_ge h1.1 e
  have:=h.lt
  omega
 have hgo:go<W.heap.size:=Nat.lt_of_lt_of_le h.lt h.hB
 have hblk:=hg.block go hgo (fun e=>hne e)
 have d2:w'.cell? ⟨go,2,none⟩=some (.slice p m c):=(World.cell?_of_block (a:=⟨go,2,none⟩) hblk).trans hv
 have df:w'.frozen? ⟨go,2,none⟩=false:=(World.frozen?_of_block (a:=⟨go,2,none⟩) hblk).trans h.fr
 have hst:Stk NotU32 w' go:=⟨Nat.lt_of_lt_of_le hgo hg.size,fun i u hu=>h.stk.2 i u ((World.cell?_of_block (a:=⟨go,i,none⟩) hblk).symm.trans hu)⟩
 have hO:=OwnZ.more h1 h2 hr h3 hg F (fun _ _=>rfl) e2
 refine⟨d2,df,h.lt,by simpa using Nat.le_trans h.hB hg.size,?_,?_,⟨p',c',World.cell?_setCell_same' _ _ _ (by rw[d2];rfl),hO.box (I32.putU hst 2 _) (but_put w' go 2 _) h.lt⟩,frozen_set df,stk_put hst _ _ (fun _ h=>by cases h)⟩
 ·rw[World.cell?_setCell_other _ _ _ _ (by simp)];exact(World.cell?_of_block (a:=⟨go,0,none⟩) hblk).trans h.c0
 ·rw[World.cell?_setCell_other _ _ _ _ (by simp)];exact(World.cell?_of_block (a:=⟨go,1,none⟩) hblk).trans h.c1
theorem mats_at (w:World) (s9 s2 s3:Nat) (h9:Blk w s9 63 #[.int .i64 0,.int .i64 (-1),.int .i64 1,.int .i64 0]) (h2:Blk w s2 63 #[.int .i64 0,.int .i64 (-1),.int .i64 1,.int .i64 (-1),.int .i64 (-1),.int .i64 1,.int .i64 (-1),.int .i64 0]) (h3:Blk w s3 113 #[.slice (some ⟨s9,0,none⟩) 1 1,.slice (some ⟨s2,0,none⟩) 2 2]) (q:Nat) (hq:q<2):
  ∃ SL,(SL=s9∨SL=s2)∧w.cell? ⟨s3,q,none⟩=some (.slice (some ⟨SL,0,none⟩) (gsOf q).length (gsOf q).length)∧∀ t,t<(gsOf q).length→w.cell? ⟨SL,t*4,none⟩=some (.int .i64 ((gsOf q).getD t (0,0,0,0)).1)∧w.cell? ⟨SL,t*4+1,none⟩=some (.int .i64 ((gsOf q).getD t (0,0,0,0)).2.1)∧w.cell? ⟨SL,t*4+2,none⟩=some (.int .i64 ((gsOf q).getD t (0,0,0,0)).2.2.1)∧w.cell? ⟨SL,t*4+3,none⟩=some (.int .i64 ((gsOf q).getD t (0,0,0,0)).2.2.2):=by
 rcases(by omega:q=0∨q=1)with rfl|rfl
 ·refine⟨s9,.inl rfl,h3.at_ 0 rfl,fun t ht=>?_⟩
  have ht':t<1:=ht
  obtain rfl:t=0:=by omega
  exact⟨h9.at_ 0 rfl,h9.at_ 1 rfl,h9.at_ 2 rfl,h9.at_ 3 rfl⟩
 ·refine⟨s2,.inr rfl,h3.at_ 1 rfl,fun t ht=>?_⟩
  have ht':t<2:=ht
  rcases(by omega:t=0∨t=1)with rfl|rfl
  ·exact⟨h2.at_ 0 rfl,h2.at_ 1 rfl,h2.at_ 2 rfl,h2.at_ 3 rfl⟩
  ·exact⟨h2.at_ 4 rfl,h2.at_ 5 rfl,h2.at_ 6 rfl,h2.at_ 7 rfl⟩
theorem ZE.but32 {z:Int} {w w':World} {g i G:Nat} (h:ZE z w g i) (h32:I32 w w') (hg:w.grownBy w' (some G)) (hne:g≠G):ZE z w' g i:=by
 obtain⟨s,p,n,c,e0,e1,e2⟩:=h
 exact⟨s,p,n,c,hg.cell e0 (fun e=>by injection e with e;exact hne e),hg.cell e1 (fun e=>by injection e with e;exact hne e),e2.i32 h32⟩
theorem put3_at {w:World} {R:Nat} {v0 v1 v2:Value} (h0:(w.cell? ⟨R,0,none⟩).isSome=true) (h1:(w.cell? ⟨R,1,none⟩).isSome=true) (h2:(w.cell? ⟨R,2,none⟩).isSome=true):
  (((w.setCell ⟨R,0,none⟩ v0).setCell ⟨R,1,none⟩ v1).setCell ⟨R,2,none⟩ v2).cell? ⟨R,0,none⟩=some v0∧(((w.setCell ⟨R,0,none⟩ v0).setCell ⟨R,1,none⟩ v1).setCell ⟨R,2,none⟩ v2).cell? ⟨R,1,none⟩=some v1∧(((w.setCell ⟨R,0,none⟩ v0).setCell ⟨R,1,none⟩ v1).setCell ⟨R,2,none⟩ v2).cell? ⟨R,2,none⟩=some v2:=by
 refine⟨?_,?_,?_⟩
 ·rw[World.cell?_setCell_other _ _ _ _ (by simp),World.cell?_setCell_other _ _ _ _ (by simp),World.cell?_setCell_same' _ _ _ h0]
 ·rw[World.cell?_setCell_other _ _ _ _ (by simp),World.cell?_setCell_same' _ _ _ (some_put h1)]
 ·rw[World.cell?_setCell_same' _ _ _ (some_put (some_put h2))]
theorem put3_32 {w:World} {R:Nat} (hs:Stk NotU32 w R) {v0 v1 v2:Value} (h0:NotU32 v0) (h1:NotU32 v1):I32 w (((w.setCell ⟨R,0,none⟩ v0).setCell ⟨R,1,none⟩ v1).setCell ⟨R,2,none⟩ v2):=by
 have s1:=stk_put hs ⟨R,0,none⟩ v0 h0
 have s2:=stk_put s1 ⟨R,1,none⟩ v1 h1
 exact((I32.putU hs 0 v0).trans (I32.putU s1 1 v1)).trans (I32.putU s2 2 v2)
theorem c_Relations_ok (n wt:Nat) (D:Int) (L:List Nat) (C:Nat) (w:World) (hT:Tab w) (h0:0<n) (hn:n≤120) (hwt:wt≤22) (hD:-120≤D) (hD':D≤120) (hck:Pl.check n ((wt:Int)+2) D=0) (hk:∀ l,Pl.kroP D l=0∨Pl.kroP D l=1∨Pl.kroP D l=-1) (hL:pts n (n*n)=L) (hCe:(wt+1)*L.length=C) (hC0:0<C) (hC:C≤72):
  Calls Tryz.prog 47 #[.agg #[.int .i64 n,.int .i64 ((wt:Int)+2),.int .i64 D]] w fun e w'=>RelRet (2*C) C (fun p=>relE n wt L (plAll n D L n) (p / C) (p % C)) e w'∧Below w.heap.size w w':=by
 have HLn:∀ x,x∈L→x<n*n:=fun x h=>pts_lt (hL▸h)
 have hLl:L.length≤72:=Nat.le_trans (by rw[← hCe];exact Nat.le_mul_of_pos_left _ (by omega)) hC
 have hL0:0<L.length:=by
  rcases Nat.eq_zero_or_pos L.length with h|h
  ·rw[h,Nat.mul_zero]at hCe;omega
  ·exact h
 have HEN:=Kh (fun W (hb:Below w.heap.size w W)=>hL▸c_enter_ok n wt D W (hT.below hb) h0 hn hwt hD hD' hck)
 obtain⟨f,hf⟩:∃ f,plAll n D L n=f:=⟨_,rfl⟩
 rw[hf]at HEN ⊢
 have HTO:=Kh (show TabOk L.length f from hf▸plAll_ok hk n)
 have HMV:=Kh (fun T B W (h:WorldAt W T B n wt L f) (hB:B≤W.heap.size) i j (hj:j<L.length) (g:M4) (hg:GOk g)=>hCe▸c_movedM T B n wt L f i j g.1 g.2.1 g.2.2.1 g.2.2.2 W h hB h0 hn hwt hj (by omega) HLn HTO.out (by have:=hg.1;omega) (by have:=hg.1;omega) (by have:=hg.2.1;omega) (by have:=hg.2.1;omega) (by have:=hg.2.2.1;omega) (by have:=hg.2.2.1;omega) (by have:=hg.2.2.2;omega) (by have:=hg.2.2.2;omega))
 have HCO:=Kh (fun T B W (h:WorldAt W T B n wt L f)=>hCe▸c_countW T B n wt L f W h hwt (by omega))
 have HCE:=Kh hCe
 have hmk:=makeZ C (by omega)
 clear hT hck hk hL hCe hf HLn
 go_enter Tryz.func47,Tryz.ntmps47
 go_wp2_with fail
 obtain⟨w0,hw0,X0,X1,hb0⟩:=bx2 w #[.int .i64 n,.int .i64 ((wt:Int)+2),.int .i64 D] 23 #[.int .i64 0,.int .i64 0,.slice none 0 0] 99
 rw[hw0]
 refine(HEN.out w0 hb0).mono ?_
 rintro e w1 ⟨⟨T,rfl,hwa⟩,hb1⟩
 have HX1:=Kh (X1.below_ hb1 X1.lt)
 have HB1:=Kh (hb0.trans (hb1.mono hb0.size))
 have HWA:=Kh hwa
 obtain⟨gr,hgr⟩:∃ x,w.heap.size+1=x:=⟨_,rfl⟩
 have HGR:=Kh hgr
 rw[hgr]at HX1 ⊢
 clear hw0 X0 X1 hb0 hb1 hwa HEN hgr
 go_wp2_with fail
 obtain⟨w2,hw2,Y0,Y1,Y2,hb2⟩:=bx3 w1 #[.int .i64 0,.int .i64 (-1),.int .i64 1,.int .i64 0] 63 #[.int .i64 0,.int .i64 (-1),.int .i64 1,.int .i64 (-1)] 63 #[.int .i64 (-1),.int .i64 1,.int .i64 (-1),.int .i64 0] 63
 rw[hw2]
 refine(HCO.out T w1.heap.size w2 (HWA.out.keep (Nat.le_refl _) hb2)).mono ?_
 rintro e w3 ⟨rfl,m1,rfl⟩
 have hb3:Below w2.heap.size w2 (w2.drewN m1):=below_drewN' (Below.refl _ _) m1
 generalize w2.drewN m1=w3 at hb3 ⊢
 have HY0:=Kh (Y0.below_ hb3 Y0.lt)
 have HY1:=Kh (Y1.below_ hb3 Y1.lt)
 have HY2:=Kh (Y2.below_ hb3 Y2.lt)
 have HB3:=Kh (hb2.trans (hb3.mono hb2.size))
 obtain⟨C2,hC2⟩:∃ x,2*C=x:=⟨_,rfl⟩
 have e2:(2:Int)*(C:Int)=(C2:Nat):=by rw[← hC2];push_cast;rfl
 have v2:IntKind.i64.wrap (C2:Int)=(C2:Nat):=IntWalk.i64_in _ (by omega)
 have HC2:=Kh hC2
 obtain⟨ga,hga⟩:∃ x,w1.heap.size=x:=⟨_,rfl⟩
 obtain⟨gb,hgb⟩:∃ x,ga+1=x:=⟨_,rfl⟩
 obtain⟨gc,hgc⟩:∃ x,gb+1=x:=⟨_,rfl⟩
 have HGA:=Kh hga
 rw[hga,hgb,hgc]at HY2
 rw[hga,hgb]at HY1
 rw[hga]at HY0 HB3
 rw[hga,hgb,hgc]
 clear hw2 Y0 Y1 Y2 hb2 hb3 hC2 hga hgb hgc
 go_upto_region 9 with(fail)
 obtain⟨w4,hw4,Z0,hb4⟩:=bx1 w3 #[.int .i64 C2,.int .i64 C,.slice none 0 0] 99
 rw[hw4]
 obtain⟨go,hgo⟩:∃ x,w3.heap.size=x:=⟨_,rfl⟩
 rw[hgo]at Z0 ⊢
 have HGO:=Kh hgo
 have HZ4:=Kh Z0
 have HB4:=Kh (HB3.out.trans (hb4.mono (by have h1:=HB3.out.size;have h2:=HGA.out;omega)))
 have HY0:=Kh (bk HY0 hb4)
 have HY1:=Kh (bk HY1 hb4)
 have HY2:=Kh (bk HY2 hb4)
 clear hw4 Z0 hb4 hgo
 obtain⟨w5,hw5⟩:∃ w5,w4.alloc (.cells #[.int .i64 0,.int .i64 (-1),.int .i64 1,.int .i64 0] 63)=w5:=⟨_,rfl⟩
 have hb5:Below w4.heap.size w4 w5:=hw5▸(Below.refl _ _).alloc (Nat.le_refl _) _
 have y00:=HY0.out.at_ 0 rfl
 have y01:=HY0.out.at_ 1 rfl
 have y02:=HY0.out.at_ 2 rfl
 have y03:=HY0.out.at_ 3 rfl
 have y10:=(bk HY1 hb5).at_ 0 rfl
 have y11:=(bk HY1 hb5).at_ 1 rfl
 have y12:=(bk HY1 hb5).at_ 2 rfl
 have y13:=(bk HY1 hb5).at_ 3 rfl
 have y20:=(bk HY2 hb5).at_ 0 rfl
 have y21:=(bk HY2 hb5).at_ 1 rfl
 have y22:=(bk HY2 hb5).at_ 2 rfl
 have y23:=(bk HY2 hb5).at_ 3 rfl
 rw[← hw5]at y10 y11 y12 y13 y20 y21 y22 y23
 clear hw5 hb5
 go_wp2_with fail
 have hv3:(#[.slice (some ⟨w4.heap.size,0,none⟩) 1 1,.slice (some ⟨w4.heap.size+1,0,none⟩) 2 2]:Array Value)=#[.slice (some ⟨w4.heap.size,0,none⟩) 1 1,.slice (some ⟨w4.heap.size+1,0,none⟩) 2 2]:=rfl
 obtain⟨wB,hwB,U0,U1,U2,hb6⟩:=bx3 w4 #[.int .i64 0,.int .i64 (-1),.int .i64 1,.int .i64 0] 63 #[.int .i64 0,.int .i64 (-1),.int .i64 1,.int .i64 (-1),.int .i64 (-1),.int .i64 1,.int .i64 (-1),.int .i64 0] 63 #[.slice (some ⟨w4.heap.size,0,none⟩) 1 1,.slice (some ⟨w4.heap.size+1,0,none⟩) 2 2] 113
 rw[hwB]
 obtain⟨s9,hs9⟩:∃ x,w4.heap.size=x:=⟨_,rfl⟩
 obtain⟨s2,hs2⟩:∃ x,s9+1=x:=⟨_,rfl⟩
 obtain⟨s3,hs3⟩:∃ x,s2+1=x:=⟨_,rfl⟩
 have hgo9:go<s9:=by rw[← hs9];exact HZ4.out.lt
 rw[hs9,hs2,hs3]at U2
 rw[hs9,hs2]at U1
 rw[hs9]at U0
 rw[hs9,hs2,hs3]
 have HMT:=Kh (fun q hq=>mats_at wB s9 s2 s3 U0 U1 U2 q hq)
 have HZB:=Kh (bk HZ4 hb6)
 have HBB:=Kh (HB4.out.trans (hb6.mono (by have h1:=HB4.out.size;have h2:=HGA.out;omega)))
 have HWB:=Kh (show WorldAt wB T ga n wt L f from HGA.out▸HWA.out.keep (Nat.le_refl _) (HGA.out▸HBB.out))
 have HGB:=Kh (show s3<wB.heap.size from U2.lt)
 have HGG:=Kh (show ga≤go by have h1:=HB3.out.size;have h2:=HGA.out;have h3:=HGO.out;omega)
 have HN3:=Kh (show s3≠go∧s9≠go∧s2≠go by omega)
 have HRX:=Kh (show gr<ga∧Blk wB gr 99 #[.int .i64 0,.int .i64 0,.slice none 0 0]by
  have h1:gr<ga:=by have:=HX1.out.lt;have:=HGA.out;omega
  exact⟨h1,HX1.out.below_ HBB.out h1⟩)
 obtain⟨GB,hGB⟩:∃ x,wB.heap.size=x:=⟨_,rfl⟩
 have HGE:=Kh hGB
 rw[hGB]at HGB
 obtain⟨F,hF⟩:∃ F:Nat→Int,(fun p=>relE n wt L f (p / C) (p % C))=F:=⟨_,rfl⟩
 have HF:=Kh (show ∀ q r j,q<2→r<C→j<C→F ((q*C+r)*C+j)=rowT n wt L f r (gsOf q) (gsOf q).length j by
  intro q r j h1 h2 h3
  rw[← hF]
  dsimp only
  rw[show((q*C+r)*C+j) / C=q*C+r by rw[Nat.mul_comm,Nat.mul_add_div hC0,Nat.div_eq_of_lt h3,Nat.add_zero],show((q*C+r)*C+j) % C=j by rw[Nat.mul_comm,Nat.mul_add_mod,Nat.mod_eq_of_lt h3],← HCE.out]
  exact rel_rowT j h1 (by rw[HCE.out];exact h2))
 have HO0:=Kh (show OutAt F wB go GB C2 C (0*C*C)from
  ⟨by have:=HGB.out;omega,Nat.le_of_eq hGB.symm,HZB.out.at_ 0 rfl,HZB.out.at_ 1 rfl,⟨none,0,by rw[Nat.zero_mul,Nat.zero_mul];exact HZB.out.at_ 2 rfl,by rw[Nat.zero_mul,Nat.zero_mul];exact OwnZ.nil _ _ _⟩,HZB.out.free_ 2,Stk.of HZB.out (by intro v hv;simp at hv;rcases hv with rfl|rfl|rfl <;> exact fun _ h=>by cases h)⟩)
 have HFE:=Kh hF
 have HSM:=Kh (fun r q t k (ht:t≤2)=>(show(rowT n wt L f r (gsOf q) t k).natAbs≤1+t*4194304 from rowT_small HTO.out (gsOf_ok q) hwt t k))
 have HSY:=Kh (fun I J (g:M4) (hg:GOk g) k=>(show(mvd n wt L f I J g k).natAbs≤4194304 from Nat.le_trans (mvd_small HTO.out (by have:=hg.1;have:=hg.2.1;omega) (by have:=hg.2.2.1;have:=hg.2.2.2;omega) k) (Nat.le_trans (Nat.pow_le_pow_right (by decide) hwt) (by decide))))
 have HGSL:=Kh (fun q=>gsOf_length q)
 clear U0 U1 U2 hb6 hs9 hs2 hs3 hwB hv3 hGB hF y00 y01 y02 y03 y10 y11 y12 y13 y20 y21 y22 y23 HY0 HY1 HY2 HZ4 HB4 HB3 HX1 HWA HCO HGO e2 v2
 go_loopw [45] (fun ii wr=>∃ q:Nat,q≤2∧ii=.int .i64 q∧OutAt F wr go GB C2 C (q*C*C)∧wB.grownBy wr (some go)) (fun ii _=>2 - (intOf ii).toNat)
 case atStart=>exact⟨0,Nat.zero_le _,rfl,HO0.out,but_below go (Below.refl _ _)⟩
 case round=>
  obtain⟨q,hq,rfl,hout,hgr⟩:=hrel
  obtain⟨wa,rfl⟩:∃ wa:World,wa=wr:=⟨_,rfl⟩
  have HOA:=Kh hout
  have HGA2:=Kh hgr
  clear hout hgr HO0
  by_cases hq2:q<2
  ·have hqi:(q:Int)<2:=by omega
   obtain⟨SL,hSL,l0,hmt⟩:=HMT.out q hq2
   have hSLn:SL≠go:=by have:=HN3.out;rcases hSL with rfl|rfl <;> omega
   have HML:=Kh hmt
   have l1:=HGA2.out.cell l0 (fun e=>by injection e with e;exact HN3.out.1 e)
   obtain⟨ln,hln⟩:∃ x,(gsOf q).length=x:=⟨_,rfl⟩
   have hl2:ln≤2:=hln▸HGSL.out q
   rw[hln]at l1 HML
   have HLN:=Kh hln
   clear l0 hmt hSL hln
   go_wp2_with fail
   have HO1:=Kh (show OutAt F wa go GB C2 C ((q*C+0)*C)from HOA.out)
   go_loopw [13] (fun ii wr=>∃ r:Nat,r≤C∧ii=.int .i64 r∧OutAt F wr go GB C2 C ((q*C+r)*C)∧wB.grownBy wr (some go)) (fun ii _=>C - (intOf ii).toNat)
   case atStart=>exact⟨0,Nat.zero_le _,rfl,HO1.out,HGA2.out⟩
   case round=>
    obtain⟨r,hr,rfl,hout,hgr⟩:=hrel
    obtain⟨wx,rfl⟩:∃ wx:World,wx=wr:=⟨_,rfl⟩
    have HOX:=Kh hout
    have HGX:=Kh hgr
    clear hout hgr HO1 HOA HGA2 l1
    by_cases hrC:r<C
    ·have hri:(r:Int)<(C:Int):=by omega
     go_wp2_with fail
     have hrm:=ZRow.made (fun _=>0) wx C
     obtain⟨wz,hwz⟩:∃ wz,wx.alloc (.cells (madeCells #[.bool false,.slice none 0 0] (C*2)) 84)=wz:=⟨_,rfl⟩
     have hbz:Below wx.heap.size wx wz:=hwz▸(Below.refl _ _).alloc (Nat.le_refl _) _
     rw[hwz]at hrm ⊢
     obtain⟨G,hG⟩:∃ g,wx.heap.size=g:=⟨_,rfl⟩
     rw[hG]at hrm hbz ⊢
     have HRM:=Kh hrm
     have HBZ:=Kh hbz
     have HGXE:=Kh hG
     have HGG2:=Kh (show GB≤G by have:=HOX.out.hB;omega)
     clear hrm hbz hwz hG
     go_loopw [58] (fun ii wr=>∃ k:Nat,k≤C∧ii=.int .i64 k∧ZRow (fun _=>0) wr G C k∧Below G wx wr) (fun ii _=>C - (intOf ii).toNat)
     case atStart=>exact⟨0,Nat.zero_le _,rfl,HRM.out,HBZ.out⟩
     case round=>
      obtain⟨k,hk,rfl,hrow,hbr⟩:=hrel
      obtain⟨w2,rfl⟩:∃ w2:World,w2=wr:=⟨_,rfl⟩
      have HROW:=Kh hrow
      have HBR:=Kh hbr
      clear hrow hbr HRM HBZ
      by_cases hlt:k<C
      ·have hki:(k:Int)<(C:Int):=by omega
       go_wp2_with fail
       refine(c_Of 0 w2 (by omega) (by omega)).mono ?_
       rintro e w3 ⟨⟨s3',p3,n3,c3,rfl,hz3⟩,hb3⟩
       have hr3:=ZRow.keep HROW.out hb3
       have HQA:=Kh (ZRow.set (k':=k+1) hr3 k hlt (fun _=>0) (fun i' h1 h2=>⟨by omega,rfl⟩) hz3)
       have HB3:=Kh (HBR.out.trans (hb3.mono (Nat.le_of_lt HROW.out.sts.1)))
       obtain⟨u0,hu0⟩:=Option.isSome_iff_exists.1 (hr3.has (k*2) (by omega))
       obtain⟨u2,hu2⟩:=Option.isSome_iff_exists.1 (hr3.has (k*2+1) (by omega))
       have f0:=hr3.free (k*2) (by omega)
       have f1:=hr3.free (k*2+1) (by omega)
       clear hz3 hb3 hr3
       go_wp2
       go_roundw
       case rel=>exact⟨k+1,by omega,by go_num,HQA.out,below_put2 HB3.out (Nat.le_refl _)⟩
       case measure=>simp[intOf];omega
      ·obtain rfl:C=k:=by omega
       go_wp2_with fail
       refine(c_Of 1 w2 (by omega) (by omega)).mono ?_
       rintro e w3 ⟨⟨s3',p3,n3,c3,rfl,hz3⟩,hb3⟩
       have hr3:=ZRow.keep HROW.out hb3
       have HQA:=Kh (ZRow.set (k':=C) hr3 r hrC (rowT n wt L f r (gsOf q) 0) (fun i' h1 h2=>⟨h1,by unfold rowT;rw[if_neg h2]⟩) (by unfold rowT;rw[if_pos rfl];exact hz3))
       have HB3:=Kh (HBR.out.trans (hb3.mono (Nat.le_of_lt HROW.out.sts.1)))
       obtain⟨u0,hu0⟩:=Option.isSome_iff_exists.1 (hr3.has (r*2) (by omega))
       obtain⟨u2,hu2⟩:=Option.isSome_iff_exists.1 (hr3.has (r*2+1) (by omega))
       have f0:=hr3.free (r*2) (by omega)
       have f1:=hr3.free (r*2+1) (by omega)
       have HBP:=Kh (below_put2 (v0:=.bool s3') (v1:=.slice p3 n3 c3) (i:=r*2) (j:=r*2+1) HB3.out (Nat.le_refl G))
       clear hz3 hb3 hr3 HROW HBR HB3
       go_wp2_with fail
       go_loopw [72] (fun ii wr=>∃ t:Nat,t≤ln∧ii=.int .i64 t∧ZRow (rowT n wt L f r (gsOf q) t) wr G C C∧Below G wx wr) (fun ii _=>ln - (intOf ii).toNat)
       case atStart=>exact⟨0,Nat.zero_le _,rfl,HQA.out,HBP.out⟩
       case round=>
        obtain⟨t,ht,rfl,hrow,hbr⟩:=hrel
        obtain⟨wt1,rfl⟩:∃ wt1:World,wt1=wr:=⟨_,rfl⟩
        have HROW:=Kh hrow
        have HBR:=Kh hbr
        clear hrow hbr HQA HBP
        by_cases htl:t<ln
        ·have hti:(t:Int)<(ln:Int):=by omega
         obtain⟨⟨a,b,c,d⟩,hg⟩:∃ g:M4,(gsOf q).getD t (0,0,0,0)=g:=⟨_,rfl⟩
         have hok:GOk (a,b,c,d):=hg▸gsOf_ok q t
         obtain⟨m0,m1,m2,m3⟩:=HML.out t htl
         rw[hg]at m0 m1 m2 m3
         dsimp only at m0 m1 m2 m3
         have hcx:∀ i v,wB.cell? ⟨SL,i,none⟩=some v→wt1.cell? ⟨SL,i,none⟩=some v:=fun i v e=>by
          have h1:=World.block_lt_of_cell? wB ⟨SL,i,none⟩ e
          have h2:=HGX.out.cell e (fun e=>by injection e with e;exact hSLn e)
          exact(HBR.out.cell (p:=⟨SL,i,none⟩) (by have:=HGE.out;have:=HGG2.out;show SL<G;have h3:SL<wB.heap.size:=h1;omega)).trans h2
         have m0:=hcx _ _ m0
         have m1:=hcx _ _ m1
         have m2:=hcx _ _ m2
         have m3:=hcx _ _ m3
         have HWX:=Kh (show ∀ W,Below G wx W→WorldAt W T ga n wt L f from fun W hb=>HWB.out.next ((below_but (Below.refl ga wB) HGX.out (by have:=HGE.out;have:=HGG.out;have:=HOX.out.lt;omega) HGG.out).trans (hb.mono (by have:=HGG.out;have:=HOX.out.lt;have:=HGG2.out;omega))) (Nat.le_refl _))
         obtain⟨pl,cl,t2,_⟩:=(HWX.out wt1 HBR.out).c2
         obtain⟨I,hI⟩:∃ x,r / L.length=x:=⟨_,rfl⟩
         obtain⟨J,hJ⟩:∃ x,r % L.length=x:=⟨_,rfl⟩
         have hJl:J<L.length:=by rw[← hJ];exact Nat.mod_lt _ hL0
         have hIl:I≤72:=by rw[← hI];exact Nat.le_trans (Nat.div_le_self _ _) (by omega)
         have e1:Int.tdiv (r:Int) (L.length:Int)=(I:Nat):=by rw[Int.tdiv_eq_ediv_of_nonneg (by omega),← hI];rfl
         have e2:Int.tmod (r:Int) (L.length:Int)=(J:Nat):=by rw[Int.tmod_eq_emod_of_nonneg (by omega),← hJ];rfl
         have e3:((L.length:Int)==0)=false:=beq_eq_false_iff_ne.2 (by omega)
         have e4:L.length≠0:=by omega
         have v1:IntKind.i64.wrap (I:Int)=(I:Nat):=IntWalk.i64_in _ (by omega)
         have v2:IntKind.i64.wrap (J:Int)=(J:Nat):=IntWalk.i64_in _ (by omega)
         obtain⟨Fr,hFr⟩:∃ Fr:Nat→Int,rowT n wt L f r (gsOf q) t=Fr:=⟨_,rfl⟩
         obtain⟨Y,hY⟩:∃ Y:Nat→Int,mvd n wt L f I J (a,b,c,d)=Y:=⟨_,rfl⟩
         have HRT:=Kh (show ∀ j,rowT n wt L f r (gsOf q) (t+1) j=Fr j+Y j from fun j=>by rw[rowT,hg,hI,hJ,hFr,hY])
         have HMV2:=Kh (fun W (hb:Below G wx W)=>hY▸HMV.out T ga W (HWX.out W hb) (by have h1:=HGG.out;have h2:=HOX.out.lt;have h3:=HGG2.out;have h4:=HGXE.out;have h5:=hb.size;omega) I J hJl (a,b,c,d) hok)
         have HSF:=Kh (show ∀ k,(Fr k).natAbs≤20000000 from fun k=>by have h:=HSM.out r q t k (by omega);rw[hFr]at h;have:t*4194304≤2*4194304:=Nat.mul_le_mul_right _ (by omega);omega)
         have HSY2:=Kh (show ∀ k,(Y k).natAbs≤20000000 from fun k=>by have h:=HSY.out I J (a,b,c,d) hok k;rw[hY]at h;omega)
         have HROWF:=Kh (show ZRow Fr wt1 G C C from hFr▸HROW.out)
         clear hok hcx hI hJ hFr hY hg HROW
         go_wp2_with fail
         obtain⟨we,hwe⟩:∃ we,wt1.alloc (.cells #[.int .i64 a,.int .i64 b,.int .i64 c,.int .i64 d] 63)=we:=⟨_,rfl⟩
         have hbe:Below wt1.heap.size wt1 we:=hwe▸(Below.refl _ _).alloc (Nat.le_refl _) _
         have X:=hwe▸Blk.new wt1 63 #[.int .i64 a,.int .i64 b,.int .i64 c,.int .i64 d]
         rw[hwe]
         obtain⟨gx,hgx⟩:∃ gx,wt1.heap.size=gx:=⟨_,rfl⟩
         have HBE:=Kh (HBR.out.trans (hbe.mono (Nat.le_of_lt HROWF.out.sts.1)))
         have HROWE:=Kh (ZRow.keep HROWF.out hbe)
         have t2:=cell_next hbe t2
         rw[hgx]at X ⊢
         have x0:=X.at_ 0 rfl
         have x1:=X.at_ 1 rfl
         have x2:=X.at_ 2 rfl
         have x3:=X.at_ 3 rfl
         have HS1:=Kh (show ∀ W,Below we.heap.size we W→(W.cell? ⟨T,2,none⟩=some (.slice pl L.length cl)∧W.cell? ⟨gx,0,none⟩=some (.int .i64 a)∧W.cell? ⟨gx,1,none⟩=some (.int .i64 b)∧W.cell? ⟨gx,2,none⟩=some (.int .i64 c)∧W.cell? ⟨gx,3,none⟩=some (.int .i64 d))from fun W hb=>⟨cell_next hb t2,cell_next hb x0,cell_next hb x1,cell_next hb x2,cell_next hb x3⟩)
         have hS0:=HS1.out _ (Below.refl _ we).drew
         have HK1:=Kh (show ∀ wb,Below we.drew.heap.size we.drew wb→Below we.heap.size we wb from fun wb hb=>(Below.refl _ we).drew.trans hb)
         have HMC2:=Kh (HMV2.out we.drew HBE.out.drew)
         clear hwe hbe X hgx m0 m1 m2 m3 HBR HROWF
         go_upto_region 25 with(fail)
         go_region_held3 (fun W=>W.cell? ⟨T,2,none⟩=some (.slice pl L.length cl)∧W.cell? ⟨gx,0,none⟩=some (.int .i64 a)∧W.cell? ⟨gx,1,none⟩=some (.int .i64 b)∧W.cell? ⟨gx,2,none⟩=some (.int .i64 c)∧W.cell? ⟨gx,3,none⟩=some (.int .i64 d))
          (first|with_reducible exact hS0|with_reducible exact HS1.out _ hbN |(exfalso;assumption))
          (first
           |(go_at_call 93;(with_reducible refine HMC2.out.mono ?_);rintro e w5 ⟨⟨gm,rfl,hgm,hrm5⟩,hb5⟩;have hbN:Below we.heap.size we w5:=HK1.out _ hb5;have HGM:=Kh (show we.heap.size≤gm from hgm);have HRM5:=Kh hrm5;clear hgm hrm5))
         have HB5:=Kh hbN
         clear hb5 hbN HS1 hS0 t2 x0 x1 x2 x3 HMC2
         have HROW5:=Kh (ZRow.keep HROWE.out HB5.out)
         have HBR5:=Kh (HBE.out.trans (HB5.out.mono (Nat.le_of_lt HROWE.out.sts.1)))
         have HGMN:=Kh (show gm≠G by have h1:=HROWE.out.sts.1;have h2:=HGM.out;omega)
         have HROWS:=Kh (show ZRow (addZ Fr Y 0) w5 G C C from ZRow.congr HROW5.out (fun j _=>(addZ_zero Fr Y j).symm))
         go_wp2_with fail
         go_loopw [94] (fun ii wr=>∃ k:Nat,k≤C∧ii=.int .i64 k∧ZRow (addZ Fr Y k) wr G C C∧w5.grownBy wr (some G)) (fun ii _=>C - (intOf ii).toNat)
         case atStart=>exact⟨0,Nat.zero_le _,rfl,HROWS.out,but_below G (Below.refl _ _)⟩
         case round=>
          obtain⟨k,hk,rfl,hrow,hgr⟩:=hrel
          obtain⟨w6,rfl⟩:∃ w6:World,w6=wr:=⟨_,rfl⟩
          have HROW6:=Kh hrow
          have HGR6:=Kh hgr
          clear hrow hgr HROWS
          by_cases hlt:k<C
          ·have hki:(k:Int)<(C:Int):=by omega
           obtain⟨s,p,n5,c5,a0,a1,hz⟩:=ZE.but HROW5.out.sts HGR6.out HGMN.out (HRM5.out.val k hlt)
           have HZ:=Kh hz
           clear hz
           go_wp2_with fail
           obtain⟨w7,hw7⟩:∃ w7,w6.alloc (.cells #[.bool s,.slice p n5 c5] 84)=w7:=⟨_,rfl⟩
           have hb7:Below w6.heap.size w6 w7:=hw7▸(Below.refl _ _).alloc (Nat.le_refl _) _
           have X:=hw7▸Blk.new w6 84 #[.bool s,.slice p n5 c5]
           rw[hw7]
           obtain⟨gy,hgy⟩:∃ gy,w6.heap.size=gy:=⟨_,rfl⟩
           have HGYN:=Kh (show gy≠G by have h1:=HROW6.out.sts.1;omega)
           rw[hgy]at X ⊢
           have HZ7:=Kh (HZ.out.keep hb7)
           have HN5:=Kh (show n5≤10 by rw[← HZ.out.2.1];exact Nat.le_trans (nd_small (by have:=HSY2.out k;omega)) (by omega))
           refine(c_Sign s p n5 c5 (Y k) w7 HZ7.out.raw (by have:=HN5.out;omega)).mono ?_
           rintro e w8 ⟨rfl,hb8⟩
           have hb68:=hb7.trans (hb8.mono hb7.size)
           have HROW8:=Kh (ZRow.keep HROW6.out hb68)
           have HGR8:=Kh (HGR6.out.trans (but_below G hb68))
           have HX8:=Kh (X.below_ hb8 X.lt)
           have HZ8:=Kh (HZ7.out.keep hb8)
           clear hw7 hb7 X hgy hb8 hb68 a0 a1 HROW6 HGR6 HZ HZ7
           by_cases hz0:Y k=0
           ·have hsg:(Int.sign (Y k) != 0)=false:=by rw[hz0];rfl
            have HSK:=Kh (show ZRow (addZ Fr Y (k+1)) w8 G C C from ZRow.congr HROW8.out (fun j _=>addZ_skip hz0 j))
            clear hz0
            go_wp2
            go_roundw
            case rel=>exact⟨k+1,by omega,by go_num,HSK.out,HGR8.out⟩
            case measure=>simp[intOf];omega
           ·have hsg:(Int.sign (Y k) != 0)=true:=by
             have h:Int.sign (Y k)≠0:=fun e=>hz0 (Int.sign_eq_zero_iff_zero.1 e)
             simpa using h
            obtain⟨s5,p5,n6,c6,f0,f1,hz5⟩:=HROW8.out.val k hlt
            rw[addZ_at]at hz5
            have HF5:=Kh hz5
            have HN6:=Kh (show n6≤10 by rw[← hz5.2.1];exact Nat.le_trans (nd_small (by have:=HSF.out k;omega)) (by omega))
            have hgyn:=HGYN.out
            have x0:=HX8.out.at_ 0 rfl
            have x1:=HX8.out.at_ 1 rfl
            have hGl:G<w8.heap.size:=HROW8.out.sts.1
            have hgl:gy<w8.heap.size:=HX8.out.lt
            have hra:=HROW8.out
            clear hz0 hz5
            go_upto_region 29 with(fail)
            refine rgB (fun W=>W.cell? ⟨gy,0,none⟩=some (.bool s)∧W.cell? ⟨gy,1,none⟩=some (.slice p n5 c5)∧W.cell? ⟨G,k*2,none⟩=some (.bool s5)∧W.frozen? ⟨G,k*2,none⟩=false∧W.cell? ⟨G,k*2+1,none⟩=some (.slice p5 n6 c6)∧W.frozen? ⟨G,k*2+1,none⟩=false) (fun W hb=>⟨cnx hb x0,cnx hb x1,cnx hb f0,frozen_keep hb (by rw[f0];rfl) (hra.free (k*2) (by omega)),cnx hb f1,frozen_keep hb (by rw[f1];rfl) (hra.free (k*2+1) (by omega))⟩) (fun HSE hHeld0=>?_)
            clear x0 x1 f0 f1 hra
            refine tkE 0 ?_;refine tkE 1 ?_;refine tkE 2 ?_;refine tkE 3 ?_;refine tkE 4 ?_;refine tkE 5 ?_;refine tkE 6 ?_
            refine stE 7 rfl (fun K hK=>?_)
            focus(go_simp;refine(c_Add s5 p5 n6 c6 (Fr k) s p n5 c5 (Y k) _ (HF5.out.keep (Below.refl _ w8).drew).raw (HZ8.out.keep (Below.refl _ w8).drew).raw (by have:=HN6.out;omega) (by have:=HN5.out;omega)).mono ?_;rintro e w9 ⟨⟨s6,p6,n7,c7,rfl,hz6⟩,hb6⟩;have HB9:=Kh ((Below.refl _ w8).drew.trans hb6:Below w8.heap.size w8 w9);have hrr:=ZRow.keep HROW8.out HB9.out;have HPUT:=Kh (ZRow.set (k':=C) hrr k hlt (addZ Fr Y (k+1)) (fun i h1 h2=>⟨h1,addZ_far h2⟩) (by rw[addZ_put];exact hz6));have HG9:=Kh (show ∀ v0 v1,w5.grownBy ((w9.setCell ⟨G,k*2,none⟩ v0).setCell ⟨G,k*2+1,none⟩ v1) (some G)from fun _ _=>(HGR8.out.trans (but_below G HB9.out)).trans (but_put2 w9 G _ _ _ _));clear hz6 hb6 hrr;(first|with_reducible refine hK.out _ _ ?_ (fun hHeld1=>?_) |(go_wp2_with fail;with_reducible refine hK.out _ _ ?_ (fun hHeld1=>?_))))
            focus((try dsimp only);exact HSE.out _ HB9.out)
            focus(clear hK K;(try simp only[Act.put,lsa,lsz,lss]))
            refine tkE 8 ?_
            refine laE 9 rfl (fun K hK=>?_)
            go_simp
            refine hK.out _ _ ?_
            clear hK K
            (try simp only[Act.put,lsa,lsz,lss])
            all_goals go_wp2
            all_goals go_roundw
            all_goals first
             | exact⟨k+1,by omega,by go_num,HPUT.out,HG9.out _ _⟩
             |(simp[intOf];omega)
          ·obtain rfl:C=k:=by omega
           have HRD:=Kh (show ZRow (rowT n wt L f r (gsOf q) (t+1)) w6 G C C from ZRow.congr HROW6.out (fun j hj=>by rw[addZ_done hj,HRT.out]))
           have HBD:=Kh (show Below G wx w6 from below_but HBR5.out HGR6.out (Nat.le_of_lt HROW5.out.sts.1) (Nat.le_refl _))
           go_wp2
           go_roundw
           case rel=>exact⟨t+1,by omega,by go_num,HRD.out,HBD.out⟩
           case measure=>simp[intOf];omega
        ·obtain rfl:ln=t:=by omega
         have hbw:Below wx.heap.size wx wt1:=HGXE.out▸HBR.out
         have HOK:=Kh (HOX.out.keep hbw)
         have HGW:=Kh (HGX.out.trans (but_below go hbw))
         obtain⟨p,c,g2,xs,hK,hX⟩:=HOK.out.c2
         obtain⟨m,hm⟩:∃ x,(q*C+r)*C=x:=⟨_,rfl⟩
         have hml:m≤20000:=by
          rw[← hm]
          have h1:q*C≤1*72:=Nat.mul_le_mul (by omega) hC
          exact Nat.le_trans (Nat.mul_le_mul (by omega:q*C+r≤144) hC) (by decide)
         rw[hm]at g2 hK hX HOK
         have HMC:=Kh (show m+C=(q*C+(r+1))*C by rw[← hm,← Nat.add_assoc,Nat.add_mul _ 1 C,Nat.one_mul])
         have HK:=Kh hK
         have HX:=Kh hX
         have HG2:=Kh g2
         have HE2:=Kh (show ∀ j,j<C→F (m+j)=rowT n wt L f r (gsOf q) ln j from fun j hj=>by rw[← hm,HF.out q r j hq2 hrC hj,HLN.out])
         clear hbw hK hX hm
         go_wp2_with (at_builtin;refine wpl_appN NotInt rfl (.tmp 114) (.tmp 115) _ 84 rfl Tryz.underlying97 aIntInfo rfl (by decide) GB m C G C (.slice p m c) xs (rowCells wt1 G (C*2)) rfl HK.out rfl (rowCells_length _ _ _) (rowCells_cell HROW.out) (rowCells_one HROW.out) (by omega) (by omega) hC0 HOK.out.hB (rowCells_ni HROW.out) niz2 ?_;intro v' w9 hown' hgr9 hat9;obtain⟨p',c',rfl⟩:=own_slice hown'.1;obtain⟨d2,df,hO9⟩:=OutAt.more HOK.out HG2.out HK.out HX.out HROW.out hown' hgr9 HE2.out;have HO9:=Kh hO9;have HG9:=Kh ((grown_own HGW.out hgr9 HGE.out.symm (fun b hb=>own_ge HK.out.1 hb.symm)).trans (but_put w9 go 2 (.slice p' (m+C) c')));clear hO9 hown' hgr9 hat9 g2)
         go_roundw
         case rel=>exact⟨r+1,by omega,by go_num,by rw[← HMC.out];exact HO9.out,HG9.out⟩
         case measure=>simp[intOf];omega
    ·obtain rfl:C=r:=by omega
     have HOE:=Kh (show OutAt F wx go GB C2 C ((q+1)*C*C)by
      have e:(q+1)*C=q*C+C:=by rw[Nat.add_mul,Nat.one_mul]
      rw[e];exact HOX.out)
     go_wp2
     go_roundw
     case rel=>exact⟨q+1,by omega,by go_num,HOE.out,HGX.out⟩
     case measure=>simp[intOf];omega
  ·obtain rfl:q=2:=by omega
   obtain⟨p,c,g2,hOZ⟩:=HOA.out.c2
   obtain⟨gA,cA,hv,hc1,hc2,hgA,_,hze⟩:=hOZ.ret (Nat.mul_pos (by omega) hC0)
   have hgg:gr≠go:=by have:=HRX.out.1;have:=HGG.out;omega
   have hgr0:gr<GB:=by have:=HRX.out.1;have:=HGG.out;have:=HOA.out.lt;omega
   have hblk:=HGA2.out.block gr (by rw[HGE.out];exact hgr0) (fun e=>by injection e with e;exact hgg e)
   have r0:=HGA2.out.cell (HRX.out.2.at_ 0 rfl) (fun e=>by injection e with e;exact hgg e)
   have r1:=HGA2.out.cell (HRX.out.2.at_ 1 rfl) (fun e=>by injection e with e;exact hgg e)
   have r2:=HGA2.out.cell (HRX.out.2.at_ 2 rfl) (fun e=>by injection e with e;exact hgg e)
   have f0:wa.frozen? ⟨gr,0,none⟩=false:=(World.frozen?_of_block (a:=⟨gr,0,none⟩) hblk).trans (HRX.out.2.free_ 0)
   have f1:wa.frozen? ⟨gr,1,none⟩=false:=(World.frozen?_of_block (a:=⟨gr,1,none⟩) hblk).trans (HRX.out.2.free_ 1)
   have f2:wa.frozen? ⟨gr,2,none⟩=false:=(World.frozen?_of_block (a:=⟨gr,2,none⟩) hblk).trans (HRX.out.2.free_ 2)
   have hstB:Stk NotU32 wB gr:=Stk.of HRX.out.2 (by intro v hv;simp at hv;rcases hv with rfl|rfl|rfl <;> exact fun _ h=>by cases h)
   have hst:Stk NotU32 wa gr:=⟨Nat.lt_of_lt_of_le hstB.1 HGA2.out.size,fun i u hu=>hstB.2 i u ((World.cell?_of_block (a:=⟨gr,i,none⟩) hblk).symm.trans hu)⟩
   have a0:=HOA.out.c0
   have a1:=HOA.out.c1
   rw[hv]at g2
   have HE3:=Kh (put3_at (w:=wa) (R:=gr) (v0:=.int .i64 (C2:Int)) (v1:=.int .i64 (C:Int)) (v2:=.slice (some ⟨gA,0,none⟩) (2*C*C) cA) (by rw[r0];rfl) (by rw[r1];rfl) (by rw[r2];rfl))
   have HI3:=Kh (put3_32 hst (v0:=.int .i64 (C2:Int)) (v1:=.int .i64 (C:Int)) (v2:=.slice (some ⟨gA,0,none⟩) (2*C*C) cA) (fun _ h=>by cases h) (fun _ h=>by cases h))
   have HG3:=Kh (((but_put wa gr 0 (.int .i64 (C2:Int))).trans (but_put _ gr 1 (.int .i64 (C:Int)))).trans (but_put _ gr 2 (.slice (some ⟨gA,0,none⟩) (2*C*C) cA)))
   have HRR:=Kh (show gA<wa.heap.size∧gA≠gr∧(∀ j,j<2*C*C→ZE (F j) wa gA (j*2))∧2*C*C≤cA∧cA≤9223372036854775807 from⟨by assumption,by omega,hze,hc1,hc2⟩)
   have HBE:=Kh (show Below w.heap.size w wa from below_but (HB1.out.trans (HBB.out.mono (by have h1:=HB1.out.size;have h2:=HGA.out;omega))) HGA2.out (by have h1:=HB1.out.size;have h2:=HBB.out.size;omega) (by have h1:=HB1.out.size;have h2:=HGA.out;have h3:=HGG.out;omega))
   clear hOZ hv hc1 hc2 hgA hze hblk hstB hst
   go_wp2
   have e0:=HE3.out.1
   have e1:=HE3.out.2.1
   have e2:=HE3.out.2.2
   try simp only[Exit.inBlock,Exit.then]
   refine bodyPost_ret (by simp[results,Tryz.results47,go_sem,e0,e1,e2];try rfl) rfl ?_
   refine⟨⟨gA,0,cA,by rw[HC2.out],by simpa using HRR.out.1,fun j hj=>?_,HRR.out.2.2.2⟩,?_⟩
   ·rw[HFE.out,Nat.zero_add];exact(HRR.out.2.2.1 j hj).but32 HI3.out HG3.out HRR.out.2.1
   ·exact below_but HBE.out HG3.out HBE.out.size (by have:=HGR.out;omega)
end Go.Proofs.YtenlbhlllgppmaaGreatDoor
