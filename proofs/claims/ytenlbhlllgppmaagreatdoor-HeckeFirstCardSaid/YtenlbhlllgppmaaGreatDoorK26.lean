/- Contract of symbols.add: a multiple of a row is added to a row in place. -/
import Derived.Test.YtenlbhlllgppmaaGreatDoorK24
import Derived.Test.YtenlbhlllgppmaaGreatDoorK13
import Derived.Test.YtenlbhlllgppmaaGreatDoorK25
import Derived.Test.YtenlbhlllgppmaaGreatDoorK19
set_option linter.unusedSimpArgs false
set_option maxRecDepth 100000
set_option maxHeartbeats 8000000
namespace Go.Proofs.YtenlbhlllgppmaaGreatDoor
open Go.RowKit Eli
theorem QE.butR {r:Rat} {w w':World} {g i R:Nat} (h:QE (IsQ r) w g i) (h32:I32 w w') (hg:w.grownBy w' (some R)) (hne:g≠R):QE (IsQ r) w' g i:=by
 have hc:∀ j v,w.cell? ⟨g,j,none⟩=some v→w'.cell? ⟨g,j,none⟩=some v:=fun j v e=>hg.cell e (fun e2=>by injection e2 with e2;exact hne e2)
 obtain⟨s,p,n,c,t,q,m,d,h0,h1,h2,h3,h4⟩:=h
 exact⟨s,p,n,c,t,q,m,d,hc _ _ h0,hc _ _ h1,hc _ _ h2,hc _ _ h3,h4.i32 h32⟩
def addQ (F Y:Nat→Rat) (x:Rat) (k:Nat):Nat→FP:=fun j=>IsQ (if j<k then F j+x*Y j else F j)
theorem addQ.done {F Y:Nat→Rat} {x:Rat} {k:Nat} {w:World} {g N:Nat} (h:QRow (addQ F Y x k) w g N N) (h0:F k+x*Y k=F k):QRow (addQ F Y x (k+1)) w g N N:=
 QRow.congr h (fun j _=>by
  unfold addQ
  by_cases hj:j<k
  ·rw[if_pos hj,if_pos (by omega)]
  ·rw[if_neg hj]
   by_cases hj2:j=k
   ·rw[if_pos (by omega),hj2,h0]
   ·rw[if_neg (by omega)])
theorem addQ.put {F Y:Nat→Rat} {x:Rat} {k:Nat} {w:World} {g N:Nat} (h:QRow (addQ F Y x k) w g N N) (hk:k<N) {s:Bool} {p:Option Addr} {n c:Nat} {t:Bool} {q:Option Addr} {m d:Nat} (hq:Qs w s p n c t q m d (F k+x*Y k)):
  QRow (addQ F Y x (k+1)) ((((w.setCell ⟨g,k*4,none⟩ (.bool s)).setCell ⟨g,k*4+1,none⟩ (.slice p n c)).setCell ⟨g,k*4+2,none⟩ (.bool t)).setCell ⟨g,k*4+3,none⟩ (.slice q m d)) g N N:=
 QRow.set (fun _=>IsQ.solid _) h k hk _ (IsQ.solid _) (fun i hi hne=>⟨hi,by
  unfold addQ
  by_cases hj:i<k
  ·rw[if_pos hj,if_pos (by omega)]
  ·rw[if_neg hj,if_neg (by omega)]⟩) (show IsQ (if k<k+1 then F k+x*Y k else F k) w s p n c t q m d by rw[if_pos (Nat.lt_succ_self k)];exact hq)
theorem addQ.elem {F Y:Nat→Rat} {x:Rat} {k:Nat} {w:World} {g N:Nat} (h:QRow (addQ F Y x k) w g N N) (hk:k<N):QE (IsQ (F k)) w g (k*4):=by
 have h1:=QRow.val h k hk
 unfold addQ at h1
 rw[if_neg (Nat.lt_irrefl k)]at h1
 exact h1
theorem add_grown {w0 we w4:World} {g k:Nat} {v0 v1 v2 v3:Value} (h:w0.grownBy we (some g)) (hb:Below we.heap.size we w4):w0.grownBy ((((w4.setCell ⟨g,k*4,none⟩ v0).setCell ⟨g,k*4+1,none⟩ v1).setCell ⟨g,k*4+2,none⟩ v2).setCell ⟨g,k*4+3,none⟩ v3) (some g):=
 (h.trans (but_below g hb)).trans (but_put4 w4 g _ _ _ _ v0 v1 v2 v3)
theorem c_addTo (g N cx:Nat) (v2:Value) (F Y:Nat→Rat) (s:Bool) (p:Option Addr) (n c:Nat) (t:Bool) (q:Option Addr) (m d:Nat) (x:Rat) (w:World) (h1:QRow (fun j=>IsQ (F j)) w g N N)
  (hy:N=0∨∃ gy oy cy,v2=.slice (some ⟨gy,oy,none⟩) N cy∧gy≠g∧gy<w.heap.size∧∀ j,j<N→QE (IsQ (Y j)) w gy (oy+j*4))
  (hx:Qs w s p n c t q m d x) (hK:hq x≤100000000) (hF:∀ j,j<N→hq (F j)≤100000000∧hq (Y j)≤100000000) (hN:N≤1000000):
  Calls Tryz.prog 50 #[.slice (some ⟨g,0,none⟩) N cx,.agg #[.bool s,.slice p n c,.bool t,.slice q m d],v2] w fun e w'=>(∃ v,e=.returned v)∧QRow (fun j=>IsQ (F j+x*Y j)) w' g N N∧w.grownBy w' (some g)∧I32 w w':=by
 have HY:=Kh hy
 have HX:=Kh hx
 have HF:=Kh hF
 have H1:=Kh h1
 have HK:=Kh hK
 have HGS:=Kh h1.sts.1
 clear h1 hy hx hF hK
 go_enter Tryz.func50,Tryz.ntmps50
 go_wp2_with fail
 obtain⟨w0,hw0,X0,hb0⟩:=bx1 w #[.bool s,.slice p n c,.bool t,.slice q m d] 86
 rw[hw0]
 have HB0:=Kh hb0
 have HC0:=Kh X0
 have HR0:=Kh (show QRow (addQ F Y x 0) w0 g N N from QRow.congr (QRow.keep (fun _=>IsQ.solid _) H1.out hb0) (fun j _=>by unfold addQ;rw[if_neg (Nat.not_lt_zero j)]))
 have HQ0:=Kh (HX.out.keep hb0)
 obtain⟨gc,hgc⟩:∃ gc,w.heap.size=gc:=⟨_,rfl⟩
 have HGC:=Kh (show gc≠g by have:=HGS.out;omega)
 rw[hgc]at HC0 ⊢
 have HGC2:=Kh hgc
 clear X0 hb0 hw0 H1 HX hgc
 go_wp2
 go_loopw [9] (fun i wr=>∃ k:Nat,k≤N∧i=.int .i64 k∧QRow (addQ F Y x k) wr g N N∧w0.grownBy wr (some g)∧I32 w0 wr) (fun i _=>N - (intOf i).toNat)
 case atStart=>exact⟨0,Nat.zero_le _,rfl,HR0.out,but_below g (Below.refl _ _),I32.refl _⟩
 case round=>
  obtain⟨k,hk,rfl,hrow,hgr,h32⟩:=hrel
  have HROW:=Kh hrow
  have HGR:=Kh hgr
  have H32:=Kh h32
  clear hrow hgr h32 HR0
  by_cases hlt:k<N
  ·obtain⟨gy,oy,cy,rfl,hne,hgy,hye⟩:=HY.out.resolve_left (by omega)
   have HNE:=Kh hne
   obtain⟨s',p',i1,c',t',q',m',d',a0,a1,a2,a3,hx⟩:=(((hye k hlt).keep (IsQ.solid _) HB0.out).butR H32.out HGR.out hne)
   have HP:=Kh (show Qs wr s' p' i1 c' t' q' m' d' (Y k)from hx)
   have HQX:=Kh (HQ0.out.i32 H32.out)
   have x0:=HGR.out.cell (HC0.out.at_ 0 rfl) (fun e=>by injection e with e;exact HGC.out e)
   have x1:=HGR.out.cell (HC0.out.at_ 1 rfl) (fun e=>by injection e with e;exact HGC.out e)
   have x2:=HGR.out.cell (HC0.out.at_ 2 rfl) (fun e=>by injection e with e;exact HGC.out e)
   have x3:=HGR.out.cell (HC0.out.at_ 3 rfl) (fun e=>by injection e with e;exact HGC.out e)
   have hki:(k:Int)<(N:Int):=by omega
   have HX3:=Kh (show Cells4 wr gc 0 s p n c t q m d from⟨x0,x1,x2,x3⟩)
   have HA3:=Kh (show Cells4 wr gy (oy+k*4) s' p' i1 c' t' q' m' d' from⟨a0,a1,a2,a3⟩)
   clear hye hne hx x0 x1 x2 x3
   go_wp2_with fail
   refine(c_qSignQ s' p' i1 c' t' q' m' d' (Y k) wr HP.out (by have:=(HF.out k hlt).2;omega)).mono ?_
   rintro e we ⟨⟨sg,rfl,hsg⟩,hbe⟩
   have HSG:=Kh hsg
   have HBE:=Kh hbe
   have HROW2:=Kh (QRow.keep (fun j=>(IsQ.solid _:Solid (addQ F Y x k j))) HROW.out hbe)
   have HGR2:=Kh (HGR.out.trans (but_below g hbe))
   have H322:=Kh (H32.out.trans (I32.below hbe))
   have HP2:=Kh (HP.out.keep hbe)
   have HQ2:=Kh (HQX.out.keep hbe)
   have HX4:=Kh (HX3.out.keep hbe)
   have HA4:=Kh (HA3.out.keep hbe)
   clear hsg hbe a0 a1 a2 a3 HROW HGR H32 HP HQX HX3 HA3
   by_cases hz:Y k=0
   ·have h0:sg=0:=HSG.out.2 hz
    subst h0
    have hz2:=Kh (show F k+x*Y k=F k by rw[hz];grind)
    go_wp2
    go_roundw
    case rel=>exact⟨k+1,by omega,by go_num,addQ.done HROW2.out hz2.out,HGR2.out,H322.out⟩
    case measure=>simp[intOf];omega
   ·have h0:(sg != 0)=true:=by
     have:sg≠0:=fun e=>hz (HSG.out.1 e)
     simpa using this
    obtain⟨x0,x1,x2,x3⟩:=HX4.out
    obtain⟨a0,a1,a2,a3⟩:=HA4.out
    obtain⟨s5,p5,n5,c5,t5,q5,m5,d5,e0,e1,e2,e3,hy⟩:=addQ.elem HROW2.out hlt
    have HF5:=Kh (show Qs we s5 p5 n5 c5 t5 q5 m5 d5 (F k)from hy)
    have HSM:=Kh (show hq (x*Y k)≤200000000 by
     have h1:=hq_mul x (Y k)
     have h2:=HK.out
     have h3:=(HF.out k hlt).2
     omega)
    have HM1:=Kh (fun w1 (hb:Below we.heap.size we w1)=>c_qMulQ s p n c t q m d x s' p' i1 c' t' q' m' d' (Y k) w1 (HQ2.out.keep hb) (HP2.out.keep hb) (by have:=HK.out;omega) (by have:=(HF.out k hlt).2;omega))
    have hra:=HROW2.out
    have hn1:=HNE.out
    have hn2:=HGC.out
    have hn3:g<we.heap.size:=hra.sts.1
    clear hy
    go_upto_region 5 with(fail)
    refine rgB (fun W=>W.cell? ⟨gc,0,none⟩=some (.bool s)∧W.cell? ⟨gc,1,none⟩=some (.slice p n c)∧W.cell? ⟨gc,2,none⟩=some (.bool t)∧W.cell? ⟨gc,3,none⟩=some (.slice q m d)∧W.cell? ⟨gy,oy+k*4,none⟩=some (.bool s')∧W.cell? ⟨gy,oy+k*4+1,none⟩=some (.slice p' i1 c')∧W.cell? ⟨gy,oy+k*4+2,none⟩=some (.bool t')∧W.cell? ⟨gy,oy+k*4+3,none⟩=some (.slice q' m' d')∧W.cell? ⟨g,k*4,none⟩=some (.bool s5)∧W.frozen? ⟨g,k*4,none⟩=false∧W.cell? ⟨g,k*4+1,none⟩=some (.slice p5 n5 c5)∧W.frozen? ⟨g,k*4+1,none⟩=false∧W.cell? ⟨g,k*4+2,none⟩=some (.bool t5)∧W.frozen? ⟨g,k*4+2,none⟩=false∧W.cell? ⟨g,k*4+3,none⟩=some (.slice q5 m5 d5)∧W.frozen? ⟨g,k*4+3,none⟩=false) (fun W hb=>⟨cnx hb x0,cnx hb x1,cnx hb x2,cnx hb x3,cnx hb a0,cnx hb a1,cnx hb a2,cnx hb a3,cnx hb e0,frozen_keep hb (by rw[e0];rfl) (hra.free _ (by omega)),cnx hb e1,frozen_keep hb (by rw[e1];rfl) (hra.free _ (by omega)),cnx hb e2,frozen_keep hb (by rw[e2];rfl) (hra.free _ (by omega)),cnx hb e3,frozen_keep hb (by rw[e3];rfl) (hra.free _ (by omega))⟩) (fun HSE hHeld0=>?_)
    clear x0 x1 x2 x3 a0 a1 a2 a3 e0 e1 e2 e3 hra
    refine tkE 0 ?_;refine tkE 1 ?_;refine tkE 2 ?_;refine tkE 3 ?_;refine tkE 4 ?_;refine tkE 5 ?_;refine tkE 6 ?_;refine tkE 7 ?_;refine tkE 8 ?_;refine tkE 9 ?_;refine tkE 10 ?_
    refine stE 11 rfl (fun K hK=>?_)
    focus(go_simp;refine(HM1.out _ (Below.refl _ we).drew).mono ?_;rintro e w2 ⟨⟨s3,p3,n3,c3,t3,q3,m3,d3,rfl,hz3⟩,hb3⟩;have HB3:=Kh ((Below.refl _ we).drew.trans hb3:Below we.heap.size we w2);have HZ3:=Kh hz3;clear hz3 hb3;(first|with_reducible refine hK.out _ _ ?_ (fun hHeld1=>?_) |(go_wp2_with fail;with_reducible refine hK.out _ _ ?_ (fun hHeld1=>?_))))
    focus((try dsimp only);exact HSE.out _ HB3.out)
    focus(clear hK K;(try simp only[Act.put,lsa,lsz,lss]))
    refine stE 12 rfl (fun K hK=>?_)
    focus(go_simp;refine(c_qAddQ s5 p5 n5 c5 t5 q5 m5 d5 (F k) s3 p3 n3 c3 t3 q3 m3 d3 (x*Y k) _ (HF5.out.keep HB3.out) HZ3.out (by have:=(HF.out k hlt).1;omega) (by have:=HSM.out;omega)).mono ?_;rintro e w4 ⟨⟨s6,p6,n6,c6,t6,q6,m6,d6,rfl,hz6⟩,hb6⟩;have HBF:=bt HB3 hb6;have hrr:=QRow.keep (fun j=>(IsQ.solid _:Solid (addQ F Y x k j))) HROW2.out HBF.out;have HPUT:=Kh (addQ.put hrr hlt hz6);have HG4:=Kh (show ∀ v0 v1 v2 v3,w0.grownBy ((((w4.setCell ⟨g,k*4,none⟩ v0).setCell ⟨g,k*4+1,none⟩ v1).setCell ⟨g,k*4+2,none⟩ v2).setCell ⟨g,k*4+3,none⟩ v3) (some g)from fun _ _ _ _=>add_grown HGR2.out HBF.out);have H4:=Kh (show I32 w0 ((((w4.setCell ⟨g,k*4,none⟩ (.bool s6)).setCell ⟨g,k*4+1,none⟩ (.slice p6 n6 c6)).setCell ⟨g,k*4+2,none⟩ (.bool t6)).setCell ⟨g,k*4+3,none⟩ (.slice q6 m6 d6))from(H322.out.trans (I32.below HBF.out)).trans (I32.put4 hrr.sts _ _ _ _ _ _ _ _ (NotInt.bool _) (NotInt.slice _ _ _) (NotInt.bool _)));clear hz6 hb6 hrr;(first|with_reducible refine hK.out _ _ ?_ (fun hHeld2=>?_) |(go_wp2_with fail;with_reducible refine hK.out _ _ ?_ (fun hHeld2=>?_))))
    focus((try dsimp only);exact HSE.out _ HBF.out)
    focus(clear hK K;(try simp only[Act.put,lsa,lsz,lss]))
    refine tkE 13 ?_
    refine laE 14 rfl (fun K hK=>?_)
    go_simp
    refine hK.out _ _ ?_
    clear hK K
    (try simp only[Act.put,lsa,lsz,lss])
    all_goals clear HROW2 HGR2 H322
    all_goals go_wp2
    all_goals go_roundw
    all_goals first
     | exact⟨k+1,by omega,by go_num,HPUT.out,HG4.out _ _ _ _,H4.out⟩
     |(simp[intOf];omega)
  ·obtain rfl:k=N:=by omega
   go_wp2
   go_end0
   exact⟨⟨_,rfl⟩,QRow.congr HROW.out (fun j hj=>by unfold addQ;rw[if_pos hj]),(but_below g HB0.out).trans HGR.out,(I32.below HB0.out).trans H32.out⟩
def SliceV (v:Value):Prop:=∃ p n c,v=.slice p n c
theorem SliceV.notU32 {v:Value} (h:SliceV v):NotU32 v:=by
 obtain⟨p,n,c,rfl⟩:=h
 exact fun _ h=>by cases h
theorem Stk.imp {K K':Value→Prop} {w:World} {G:Nat} (h:Stk K w G) (hk:∀ v,K v→K' v):Stk K' w G:=⟨h.1,fun i v hv=>hk v (h.2 i v hv)⟩
theorem OwnT.base {l:List (Nat×Rat)} {w:World} {B B':Nat} {v:Value} (h:OwnT l w B v) (hB:B'≤B):OwnT l w B' v:=by
 obtain⟨xs,⟨⟨e0,h1⟩,hs⟩,h2⟩:=h
 refine⟨xs,⟨⟨e0,?_⟩,hs⟩,h2⟩
 rcases h1 with h1 |⟨g,cap,cs,e1,hg,rest⟩
 ·exact .inl h1
 ·exact .inr ⟨g,cap,cs,e1,Nat.le_trans hB hg,rest⟩
structure LeadTab (L:Nat→List (Nat×Rat)) (w:World) (G C B:Nat):Prop where
 stk:Stk SliceV w G
 free:∀ i,i<C→w.frozen? ⟨G,i,none⟩=false
 val:∀ j,j<C→∃ v,w.cell? ⟨G,j,none⟩=some v∧TL (L j) w B v∧(L j=[]→v=.slice none 0 0)
theorem LeadTab.next {L:Nat→List (Nat×Rat)} {w w':World} {G C B B':Nat} (h:LeadTab L w G C B) (h32:I32 w w') (hb:Below B' w w') (hG:G<B') (hB:B≤B'):LeadTab L w' G C B:=
 ⟨⟨Nat.lt_of_lt_of_le h.stk.1 hb.size,fun i v hv=>h.stk.2 i v ((hb.cell (p:=⟨G,i,none⟩) hG).symm.trans hv)⟩,
  fun i hi=>(World.frozen?_of_block (a:=⟨G,i,none⟩) (hb.block G hG)).trans (h.free i hi),
  fun j hj=>by
   obtain⟨v,e,ht,hn⟩:=h.val j hj
   exact⟨v,(hb.cell (p:=⟨G,j,none⟩) hG).trans e,ht.next h32 (hb.mono hB),hn⟩⟩
theorem LeadTab.keep {L:Nat→List (Nat×Rat)} {w w':World} {G C B:Nat} (h:LeadTab L w G C B) (hB:B≤w.heap.size) (hb:Below w.heap.size w w'):LeadTab L w' G C B:=h.next (I32.below hb) hb h.stk.1 hB
theorem LeadTab.up {L:Nat→List (Nat×Rat)} {w:World} {G C B B':Nat} (h:LeadTab L w G C B) (hB:B≤B'):LeadTab L w G C B':=
 ⟨h.stk,h.free,fun j hj=>by obtain⟨v,e,ht,hn⟩:=h.val j hj;exact⟨v,e,ht.up hB,hn⟩⟩
theorem TL.store {l:List (Nat×Rat)} {w:World} {B G x:Nat} {v u:Value} (h:TL l w B v) (hs:Stk SliceV w G):TL l (w.setCell ⟨G,x,none⟩ u) B v:=by
 rcases h with h |⟨g,o,cap,e,hc,hc2,hg,ht⟩
 ·exact .inl h
 ·refine .inr ⟨g,o,cap,e,hc,hc2,hg,fun j y hy=>?_⟩
  obtain⟨e0,s,p,n,c,t,q,m,d,e1,e2,e3,e4,e5⟩:=ht j y hy
  have hne:G≠g:=fun e=>by
   obtain⟨p,n,c,h1⟩:=hs.2 (o+j*5) _ (by rw[e];exact e0)
   cases h1
  have far:∀ i v,w.cell? ⟨g,i,none⟩=some v→(w.setCell ⟨G,x,none⟩ u).cell? ⟨g,i,none⟩=some v:=fun i v e=>by
   rw[World.cell?_setCell_far w ⟨G,x,none⟩ ⟨g,i,none⟩ u hne];exact e
  exact⟨far _ _ e0,s,p,n,c,t,q,m,d,far _ _ e1,far _ _ e2,far _ _ e3,far _ _ e4,e5.i32 (I32.putU (hs.imp fun _=>SliceV.notU32) x u)⟩
theorem LeadTab.put {L:Nat→List (Nat×Rat)} {w:World} {G C B x:Nat} {l:List (Nat×Rat)} {p:Option Addr} {n c:Nat} (h:LeadTab L w G C B) (hx:x<C) (hl:l≠[]) (ht:TL l w B (.slice p n c)):
  LeadTab (fun j=>if j=x then l else L j) (w.setCell ⟨G,x,none⟩ (.slice p n c)) G C B:=by
 refine⟨stk_put h.stk _ _ ⟨p,n,c,rfl⟩,fun i hi=>frozen_set (h.free i hi),fun j hj=>?_⟩
 obtain⟨v,e,htv,hn⟩:=h.val j hj
 by_cases hjx:j=x
 ·subst hjx
  refine⟨.slice p n c,World.cell?_setCell_same' _ _ _ (by rw[e];rfl),?_,fun h0=>?_⟩
  ·rw[if_pos rfl];exact ht.store h.stk
  ·rw[if_pos rfl]at h0;exact absurd h0 hl
 ·refine⟨v,?_,?_,fun h0=>?_⟩
  ·rw[World.cell?_setCell_other _ _ _ _ (by simp <;> omega)];exact e
  ·rw[if_neg hjx];exact htv.store h.stk
  ·rw[if_neg hjx]at h0;exact hn h0
def msr (C:Nat) (w:World) (v:Value):Nat:=
 match v with
 |.slice (some a) (_+1) _=>C+1 - (intOf (cellOf w a)).toNat
 | _=>0
theorem msr_cons {C:Nat} {w:World} {B:Nat} {x:Nat×Rat} {r:List (Nat×Rat)} {v:Value} (h:OwnT (x :: r) w B v):msr C w v=C+1 - x.1:=by
 rcases h.row with⟨e,_⟩ |⟨g,cap,rfl,_,_,_,_,h4⟩
 ·cases e
 ·have h0:=(h4.val 0 x rfl).1
  rw[Nat.zero_mul]at h0
  rw[List.length_cons]
  show C+1 - (intOf (cellOf w ⟨g,0,none⟩)).toNat=_
  rw[cellOf_eq h0]
  simp[intOf]
theorem msr_nil {C:Nat} {w:World} {B:Nat} {v:Value} (h:OwnT [] w B v):msr C w v=0:=by
 rcases h.row with⟨_,rfl⟩ |⟨g,cap,rfl,_⟩ <;> rfl
def sclAt (c:Rat) (k:Nat) (r:List (Nat×Rat)):List (Nat×Rat):=r.mapIdx fun j y=>(y.1,if j<k then c*y.2 else y.2)
theorem sclAt_length (c:Rat) (k:Nat) (r:List (Nat×Rat)):(sclAt c k r).length=r.length:=by unfold sclAt;rw[List.length_mapIdx]
theorem sclAt_get (c:Rat) (k:Nat) (r:List (Nat×Rat)) (j:Nat):(sclAt c k r)[j]?=(r[j]?).map fun y=>(y.1,if j<k then c*y.2 else y.2):=by unfold sclAt;rw[List.getElem?_mapIdx]
theorem sclAt_zero (c:Rat) (r:List (Nat×Rat)):sclAt c 0 r=r:=by
 refine List.ext_getElem? fun j=>?_
 rw[sclAt_get]
 cases r[j]? <;> simp
theorem sclAt_all (c:Rat) (r:List (Nat×Rat)):sclAt c r.length r=r.map fun y=>(y.1,c*y.2):=by
 refine List.ext_getElem? fun j=>?_
 rw[sclAt_get,List.getElem?_map]
 by_cases h:j<r.length
 ·rw[List.getElem?_eq_getElem h];simp[h]
 ·rw[List.getElem?_eq_none (by omega)];rfl
theorem TRow.keep {l:List (Nat×Rat)} {w w':World} {g:Nat} (h:TRow l w g) (hb:Below w.heap.size w w'):TRow l w' g:=
 ⟨h.stk.next hb,fun i hi=>frozen_keep hb (h.has i hi) (h.free i hi),fun i hi=>by rw[hb.cell (p:=⟨g,i,none⟩) h.stk.1];exact h.has i hi,fun j x hx=>(h.val j x hx).keep hb⟩
theorem TRow.tl {l:List (Nat×Rat)} {w:World} {g cap:Nat} (h:TRow l w g) (h1:l.length≤cap) (h2:cap≤9223372036854775807):TL l w w.heap.size (.slice (some ⟨g,0,none⟩) l.length cap):=
 .inr ⟨g,0,cap,rfl,h1,h2,h.stk.1,fun j x hx=>by rw[Nat.zero_add];exact h.val j x hx⟩
theorem I32.putT {w:World} {g k:Nat} (hs:Stk NotU32 w g) (s t:Bool) (p q:Option Addr) (n c m d:Nat):
  Stk NotU32 ((((w.setCell ⟨g,k*5+1,none⟩ (.bool s)).setCell ⟨g,k*5+2,none⟩ (.slice p n c)).setCell ⟨g,k*5+3,none⟩ (.bool t)).setCell ⟨g,k*5+4,none⟩ (.slice q m d)) g ∧
  I32 w ((((w.setCell ⟨g,k*5+1,none⟩ (.bool s)).setCell ⟨g,k*5+2,none⟩ (.slice p n c)).setCell ⟨g,k*5+3,none⟩ (.bool t)).setCell ⟨g,k*5+4,none⟩ (.slice q m d)):=by
 have k0:∀ b,NotU32 (.bool b):=fun _ _ h=>by cases h
 have k1:∀ p n c,NotU32 (.slice p n c):=fun _ _ _ _ h=>by cases h
 have s1:=stk_put hs ⟨g,k*5+1,none⟩ (.bool s) (k0 s)
 have s2:=stk_put s1 ⟨g,k*5+2,none⟩ (.slice p n c) (k1 _ _ _)
 have s3:=stk_put s2 ⟨g,k*5+3,none⟩ (.bool t) (k0 t)
 have s4:=stk_put s3 ⟨g,k*5+4,none⟩ (.slice q m d) (k1 _ _ _)
 exact⟨s4,(((I32.putU hs _ _).trans (I32.putU s1 _ _)).trans (I32.putU s2 _ _)).trans (I32.putU s3 _ _)⟩
theorem TRow.scl {c':Rat} {k:Nat} {r:List (Nat×Rat)} {w:World} {g:Nat} {x:Nat×Rat} (h:TRow (sclAt c' k r) w g) (hx:r[k]?=some x) {s t:Bool} {p q:Option Addr} {n c m d:Nat} (hq:Qs w s p n c t q m d (c'*x.2)):
  TRow (sclAt c' (k+1) r) ((((w.setCell ⟨g,k*5+1,none⟩ (.bool s)).setCell ⟨g,k*5+2,none⟩ (.slice p n c)).setCell ⟨g,k*5+3,none⟩ (.bool t)).setCell ⟨g,k*5+4,none⟩ (.slice q m d)) g:=by
 obtain⟨s4,h32⟩:=I32.putT (k:=k) h.stk s t p q n c m d
 have hkl:k<r.length:=by
  rcases Nat.lt_or_ge k r.length with h|h
  ·exact h
  ·rw[List.getElem?_eq_none h]at hx;cases hx
 have hn:∀ k',(sclAt c' k' r).length=r.length:=fun k'=>sclAt_length c' k' r
 refine⟨s4,fun i hi=>frozen_set (frozen_set (frozen_set (frozen_set (h.free i (by rw[hn]at hi ⊢;exact hi))))),fun i hi=>some_put (some_put (some_put (some_put (h.has i (by rw[hn]at hi ⊢;exact hi))))),fun j y hy=>?_⟩
 rw[sclAt_get]at hy
 have hold:=h.val j
 rw[sclAt_get]at hold
 by_cases hjk:j=k
 ·subst hjk
  rw[hx]at hy hold
  simp only[Option.map_some,Nat.lt_succ_self,if_true]at hy
  injection hy with hy
  subst hy
  have h0:=(hold _ rfl).1
  have c0:=h.has (j*5+1) (by rw[hn];omega)
  have c1:=some_put (R:=g) (i:=j*5+1) (u:=.bool s) (h.has (j*5+2) (by rw[hn];omega))
  have c2:=some_put (R:=g) (i:=j*5+2) (u:=.slice p n c) (some_put (R:=g) (i:=j*5+1) (u:=.bool s) (h.has (j*5+3) (by rw[hn];omega)))
  have c3:=some_put (R:=g) (i:=j*5+3) (u:=.bool t) (some_put (R:=g) (i:=j*5+2) (u:=.slice p n c) (some_put (R:=g) (i:=j*5+1) (u:=.bool s) (h.has (j*5+4) (by rw[hn];omega))))
  refine⟨?_,s,p,n,c,t,q,m,d,?_,?_,?_,?_,hq.i32 h32⟩
  ·rw[World.cell?_setCell_other _ _ _ _ (by simp),World.cell?_setCell_other _ _ _ _ (by simp),World.cell?_setCell_other _ _ _ _ (by simp),World.cell?_setCell_other _ _ _ _ (by simp)];exact h0
  ·rw[World.cell?_setCell_other _ _ _ _ (by simp),World.cell?_setCell_other _ _ _ _ (by simp),World.cell?_setCell_other _ _ _ _ (by simp),World.cell?_setCell_same' _ _ _ c0]
  ·rw[World.cell?_setCell_other _ _ _ _ (by simp),World.cell?_setCell_other _ _ _ _ (by simp),World.cell?_setCell_same' _ _ _ c1]
  ·rw[World.cell?_setCell_other _ _ _ _ (by simp),World.cell?_setCell_same' _ _ _ c2]
  ·rw[World.cell?_setCell_same' _ _ _ c3]
 ·have e:(r[j]?.map fun y=>(y.1,if j<k+1 then c'*y.2 else y.2))=r[j]?.map fun y=>(y.1,if j<k then c'*y.2 else y.2):=by
   have e1:(j<k+1)=(j<k):=propext ⟨fun _=>by omega,fun _=>by omega⟩
   simp only[e1]
  have far:∀ (i:Nat) (v:Value),j*5≤i→i<j*5+5→w.cell? ⟨g,i,none⟩=some v→((((w.setCell ⟨g,k*5+1,none⟩ (.bool s)).setCell ⟨g,k*5+2,none⟩ (.slice p n c)).setCell ⟨g,k*5+3,none⟩ (.bool t)).setCell ⟨g,k*5+4,none⟩ (.slice q m d)).cell? ⟨g,i,none⟩=some v:=by
   intro i v h1 h2 hv
   rw[World.cell?_setCell_other _ _ _ _ (by simp <;> omega),World.cell?_setCell_other _ _ _ _ (by simp <;> omega),World.cell?_setCell_other _ _ _ _ (by simp <;> omega),World.cell?_setCell_other _ _ _ _ (by simp <;> omega)]
   exact hv
  obtain⟨e0,s',p',n',c'',t',q',m',d',e1,e2,e3,e4,e5⟩:=hold y (by rw[← e];exact hy)
  exact⟨far _ _ (by omega) (by omega) e0,s',p',n',c'',t',q',m',d',far _ _ (by omega) (by omega) e1,far _ _ (by omega) (by omega) e2,far _ _ (by omega) (by omega) e3,far _ _ (by omega) (by omega) e4,e5.i32 h32⟩
theorem TRow.elem {c':Rat} {k:Nat} {r:List (Nat×Rat)} {w:World} {g:Nat} {x:Nat×Rat} (h:TRow (sclAt c' k r) w g) (hx:r[k]?=some x):TE x w g (k*5):=by
 refine h.val k x ?_
 rw[sclAt_get,hx]
 simp
theorem scl_grown {w0 we w4:World} {g k:Nat} {v0 v1 v2 v3:Value} (h:w0.grownBy we (some g)) (hb:Below we.heap.size we w4):w0.grownBy ((((w4.setCell ⟨g,k*5+1,none⟩ v0).setCell ⟨g,k*5+2,none⟩ v1).setCell ⟨g,k*5+3,none⟩ v2).setCell ⟨g,k*5+4,none⟩ v3) (some g):=
 (h.trans (but_below g hb)).trans (but_put4 w4 g _ _ _ _ v0 v1 v2 v3)
theorem rowInfo:(Tryz.prog.info? 107).map (fun i=>(i.zero,i.size,i.bytes))=some (some (.slice none 0 0),1,24):=by kernel_rfl
theorem madeL {n i:Nat} {v:Value} (h:(madeCells #[.slice none 0 0] n)[i]?=some v):v=.slice none 0 0:=by
 unfold madeCells at h
 simp only[Array.getElem?_map,Array.getElem?_range]at h
 split at h
 ·simp only[Option.map_some]at h
  injection h with h
  rw[← h]
  have h3:i % 1=0:=Nat.mod_one i
  show(#[.slice none 0 0]:Array Value)[i % 1]! = _
  rw[h3];rfl
 ·cases h
theorem makeL (n:Nat) (h:n≤1000000) (w:World):
  (Instr.makeSlice 102 (.int .i64 (n:Int)) (.int .i64 (n:Int))).run Tryz.prog w=.ok (.slice (some ⟨w.heap.size,0,none⟩) n n) (w.alloc (.cells (madeCells #[.slice none 0 0] n) 107)):=by
 obtain⟨i,hi,hz0,hz1,hz2⟩:=info_parts rowInfo
 have hr:=run_make (P:=Tryz.prog) w 102 107 i _ Tryz.underlying102 hi hz0 .i64 .i64 n n (by omega) (Int.le_refl _) (by rw[hz2];omega) (by omega)
 rw[Int.toNat_natCast,hz1,Nat.mul_one]at hr
 exact hr
theorem LeadTab.made (w:World) (C:Nat):LeadTab (fun _=>[]) (w.alloc (.cells (madeCells #[.slice none 0 0] C) 107)) w.heap.size C (w.heap.size+1):=by
 have hb:=Blk.new w 107 (madeCells #[.slice none 0 0] C)
 have hc:∀ i,i<C→(w.alloc (.cells (madeCells #[.slice none 0 0] C) 107)).cell? ⟨w.heap.size,i,none⟩=some (.slice none 0 0):=fun i hi=>by
  rw[hb.cell_ i,Array.getElem?_eq_getElem (by rw[size_madeCells];exact hi)]
  congr 1
  exact madeL (Array.getElem?_eq_getElem (by rw[size_madeCells];exact hi))
 refine⟨Stk.of hb ?_,fun i _=>hb.free_ i,fun j hj=>⟨_,hc j hj,.inl ⟨rfl,_,_,rfl⟩,fun _=>rfl⟩⟩
 intro v hv
 obtain⟨i,hi⟩:=Array.getElem?_of_mem (Array.mem_toList_iff.1 hv)
 rw[madeL hi]
 exact⟨_,_,_,rfl⟩
/-! Lists of numbers -/
def OwnN (l:List Nat) (w:World) (B:Nat) (v:Value):Prop:=OwnK NotU32 w B 3 1 v l.length (l.map fun n:Nat=>Value.int .i64 (n:Int))
theorem OwnN.nil (w:World) (B:Nat):OwnN [] w B (.slice none 0 0):=OwnK.nil _ _ _ _ _
theorem OwnN.keep {l:List Nat} {w w':World} {B:Nat} {v:Value} (h:OwnN l w B v) (hb:Below w.heap.size w w'):OwnN l w' B v:=OwnK.keep h hb
theorem OwnN.push {l:List Nat} {w':World} {B:Nat} {v':Value} {a:Nat} (h:OwnK NotU32 w' B 3 1 v' (l.length+1) ((l.map fun n:Nat=>Value.int .i64 (n:Int))++[.int .i64 (a:Int)])):OwnN (l++[a]) w' B v':=by
 unfold OwnN
 rw[List.map_append,List.length_append]
 exact h
theorem intInfo:(Tryz.prog.info? 3).map (fun i=>(i.zero,i.size,i.bytes))=some (some (.int .i64 0),1,8):=by kernel_rfl
def NL (l:List Nat) (w:World) (B:Nat) (v:Value):Prop:=(l=[]∧∃ a c,v=.slice a 0 c)∨∃ g cap,v=.slice (some ⟨g,0,none⟩) l.length cap∧l.length≤cap∧cap≤9223372036854775807∧g<B∧∀ (j x:Nat),l[j]?=some x→w.cell? ⟨g,j,none⟩=some (.int .i64 (x:Int))
theorem NL.next {l:List Nat} {w w':World} {B:Nat} {v:Value} (h:NL l w B v) (hb:Below B w w'):NL l w' B v:=by
 rcases h with h |⟨g,cap,e,hc,hc2,hg,hx⟩
 ·exact .inl h
 ·exact .inr ⟨g,cap,e,hc,hc2,hg,fun j x hj=>(hb.cell (p:=⟨g,j,none⟩) hg).trans (hx j x hj)⟩
theorem NL.up {l:List Nat} {w:World} {B B':Nat} {v:Value} (h:NL l w B v) (hB:B≤B'):NL l w B' v:=by
 rcases h with h |⟨g,cap,e,hc,hc2,hg,hx⟩
 ·exact .inl h
 ·exact .inr ⟨g,cap,e,hc,hc2,Nat.lt_of_lt_of_le hg hB,hx⟩
theorem OwnN.nl {l:List Nat} {w:World} {B:Nat} {v:Value} (h:OwnN l w B v):NL l w w.heap.size v:=by
 rcases h.1.2 with⟨e1,e2⟩ |⟨g,cap,cs,e1,hB,hg,hn,hcm,hcs,_⟩
 ·exact .inl ⟨List.eq_nil_of_length_eq_zero e2,_,_,e1⟩
 ·have hs:=h.2 g (by rw[e1];rfl)
  have h1:=h.1
  subst e1
  exact .inr ⟨g,cap,rfl,hn,by simp only[maxLen]at hcm;omega,hs.1,fun j x hx=>own_read h1 (by rw[List.getElem?_map,hx];rfl)⟩
theorem own_slice {w:World} {B E sz n:Nat} {v:Value} {xs:List Value} (h:w.ownsRow B E sz v n xs):∃ p c,v=.slice p n c:=by
 rcases h.2 with⟨h1,h2⟩ |⟨g',cap,cs,h1,hB,_⟩
 ·exact⟨none,0,by rw[h1,h2]⟩
 ·exact⟨_,_,h1⟩
theorem own_ge {w:World} {B E sz n g:Nat} {v:Value} {xs:List Value} (h:w.ownsRow B E sz v n xs) (e:some g=v.ownBlock):B≤g:=by
 rcases h.2 with⟨h1,_⟩ |⟨g',cap,cs,h1,hB,_⟩
 ·rw[h1]at e;simp[Value.ownBlock]at e
 ·rw[h1]at e;simp[Value.ownBlock]at e;omega
/-! The rows of coordinates -/
structure RowTab (X:Nat→Nat→Rat) (N:Nat) (w:World) (GR C lo B:Nat):Prop where
 stk:Stk SliceV w GR
 free:∀ i,i<C→w.frozen? ⟨GR,i,none⟩=false
 has:∀ i,i<C→(w.cell? ⟨GR,i,none⟩).isSome=true
 val:∀ j,lo≤j→j<C→∃ g,w.cell? ⟨GR,j,none⟩=some (.slice (some ⟨g,0,none⟩) N N)∧g<B∧g≠GR∧∀ i,i<N→QE (IsQ (X j i)) w g (i*4)
theorem QE.next {r:Rat} {w w':World} {B g i:Nat} (h:QE (IsQ r) w g i) (hg:g<B) (h32:I32 w w') (hb:Below B w w'):QE (IsQ r) w' g i:=by
 have hk:∀ j v,w.cell? ⟨g,j,none⟩=some v→w'.cell? ⟨g,j,none⟩=some v:=fun j v e=>(hb.cell (p:=⟨g,j,none⟩) hg).trans e
 obtain⟨s,p,n,c,t,q,m,d,h0,h1,h2,h3,h4⟩:=h
 exact⟨s,p,n,c,t,q,m,d,hk _ _ h0,hk _ _ h1,hk _ _ h2,hk _ _ h3,h4.i32 h32⟩
theorem RowTab.next {X:Nat→Nat→Rat} {N:Nat} {w w':World} {GR C lo B B':Nat} (h:RowTab X N w GR C lo B) (h32:I32 w w') (hb:Below B' w w') (hG:GR<B') (hB:B≤B'):RowTab X N w' GR C lo B:=
 ⟨⟨Nat.lt_of_lt_of_le h.stk.1 hb.size,fun i v hv=>h.stk.2 i v ((hb.cell (p:=⟨GR,i,none⟩) hG).symm.trans hv)⟩,
  fun i hi=>(World.frozen?_of_block (a:=⟨GR,i,none⟩) (hb.block GR hG)).trans (h.free i hi),
  fun i hi=>by rw[hb.cell (p:=⟨GR,i,none⟩) hG];exact h.has i hi,
  fun j h1 h2=>by
   obtain⟨g,e,hg,hne,hq⟩:=h.val j h1 h2
   exact⟨g,(hb.cell (p:=⟨GR,j,none⟩) hG).trans e,hg,hne,fun i hi=>(hq i hi).next (Nat.lt_of_lt_of_le hg hB) h32 hb⟩⟩
theorem RowTab.up {X:Nat→Nat→Rat} {N:Nat} {w:World} {GR C lo B B':Nat} (h:RowTab X N w GR C lo B) (hB:B≤B'):RowTab X N w GR C lo B':=
 ⟨h.stk,h.free,h.has,fun j h1 h2=>by obtain⟨g,e,hg,hne,hq⟩:=h.val j h1 h2;exact⟨g,e,Nat.lt_of_lt_of_le hg hB,hne,hq⟩⟩
theorem RowTab.keep {X:Nat→Nat→Rat} {N:Nat} {w w':World} {GR C lo B:Nat} (h:RowTab X N w GR C lo B) (hB:B≤w.heap.size) (hb:Below w.heap.size w w'):RowTab X N w' GR C lo B:=h.next (I32.below hb) hb h.stk.1 hB
theorem RowTab.put {X X':Nat→Nat→Rat} {N:Nat} {w:World} {GR C j B g:Nat} (h:RowTab X N w GR C (j+1) B) (hj:j<C) (hg:g<B) (hne:g≠GR) (hq:∀ i,i<N→QE (IsQ (X' j i)) w g (i*4)) (hX:∀ j',j+1≤j'→j'<C→∀ i,i<N→X' j' i=X j' i):
  RowTab X' N (w.setCell ⟨GR,j,none⟩ (.slice (some ⟨g,0,none⟩) N N)) GR C j B:=by
 have h32:I32 w (w.setCell ⟨GR,j,none⟩ (.slice (some ⟨g,0,none⟩) N N)):=I32.putU (h.stk.imp fun _=>SliceV.notU32) j _
 refine⟨stk_put h.stk _ _ ⟨_,_,_,rfl⟩,fun i hi=>frozen_set (h.free i hi),fun i hi=>some_put (h.has i hi),fun j' h1 h2=>?_⟩
 by_cases hjj:j'=j
 ·subst hjj
  exact⟨g,World.cell?_setCell_same' _ _ _ (h.has j' hj),hg,hne,fun i hi=>(hq i hi).butR h32 (but_put w GR j' _) hne⟩
 ·obtain⟨g',e,hg',hne',hq'⟩:=h.val j' (by omega) h2
  refine⟨g',?_,hg',hne',fun i hi=>by rw[hX j' (by omega) h2 i hi];exact(hq' i hi).butR h32 (but_put w GR j _) hne'⟩
  rw[World.cell?_setCell_other _ _ _ _ (by simp <;> omega)];exact e
theorem rowQInfo:(Tryz.prog.info? 30).map (fun i=>(i.zero,i.size,i.bytes))=some (some (.slice none 0 0),1,24):=by kernel_rfl
theorem makeR (n:Nat) (h:n≤1000000) (w:World):
  (Instr.makeSlice 104 (.int .i64 (n:Int)) (.int .i64 (n:Int))).run Tryz.prog w=.ok (.slice (some ⟨w.heap.size,0,none⟩) n n) (w.alloc (.cells (madeCells #[.slice none 0 0] n) 30)):=by
 obtain⟨i,hi,hz0,hz1,hz2⟩:=info_parts rowQInfo
 have hr:=run_make (P:=Tryz.prog) w 104 30 i _ Tryz.underlying104 hi hz0 .i64 .i64 n n (by omega) (Int.le_refl _) (by rw[hz2];omega) (by omega)
 rw[Int.toNat_natCast,hz1,Nat.mul_one]at hr
 exact hr
theorem RowTab.made (X:Nat→Nat→Rat) (N:Nat) (w:World) (C:Nat):RowTab X N (w.alloc (.cells (madeCells #[.slice none 0 0] C) 30)) w.heap.size C C (w.heap.size+1):=by
 have hb:=Blk.new w 30 (madeCells #[.slice none 0 0] C)
 refine⟨Stk.of hb ?_,fun i _=>hb.free_ i,fun i hi=>?_,fun j h1 h2=>absurd h2 (by omega)⟩
 ·intro v hv
  obtain⟨i,hi⟩:=Array.getElem?_of_mem (Array.mem_toList_iff.1 hv)
  rw[madeL hi]
  exact⟨_,_,_,rfl⟩
 ·rw[hb.cell_ i,Array.getElem?_eq_getElem (by rw[size_madeCells];exact hi)];rfl
structure ModAt (w:World) (M B:Nat) (N k D:Int) (F:List Nat) (C:Nat) (X:Nat→Nat→Rat):Prop where
 lt:M<B
 c0:w.cell? ⟨M,0,none⟩=some (.int .i64 N)
 c1:w.cell? ⟨M,1,none⟩=some (.int .i64 k)
 c2:w.cell? ⟨M,2,none⟩=some (.int .i64 D)
 c3:∃ v,w.cell? ⟨M,3,none⟩=some v∧NL F w B v
 c4:∃ GR,w.cell? ⟨M,4,none⟩=some (.slice (some ⟨GR,0,none⟩) C C)∧GR<B∧∀ j,j<C→∃ g,w.cell? ⟨GR,j,none⟩=some (.slice (some ⟨g,0,none⟩) F.length F.length)∧g<B∧∀ i f,F[i]?=some f→QE (IsQ (X j f)) w g (i*4)
theorem ModAt.next {w w':World} {M B B':Nat} {N k D:Int} {F:List Nat} {C:Nat} {X:Nat→Nat→Rat} (h:ModAt w M B N k D F C X) (h32:I32 w w') (hb:Below B' w w') (hB:B≤B'):ModAt w' M B N k D F C X:=by
 have hc:∀ g i v,g<B→w.cell? ⟨g,i,none⟩=some v→w'.cell? ⟨g,i,none⟩=some v:=fun g i v hg e=>(hb.cell (p:=⟨g,i,none⟩) (Nat.lt_of_lt_of_le hg hB)).trans e
 obtain⟨v,e3,h3⟩:=h.c3
 obtain⟨GR,e4,hG,h4⟩:=h.c4
 refine⟨h.lt,hc _ _ _ h.lt h.c0,hc _ _ _ h.lt h.c1,hc _ _ _ h.lt h.c2,⟨v,hc _ _ _ h.lt e3,h3.next (hb.mono hB)⟩,GR,hc _ _ _ h.lt e4,hG,fun j hj=>?_⟩
 obtain⟨g,e,hg,hq⟩:=h4 j hj
 exact⟨g,hc _ _ _ hG e,hg,fun i f hf=>(hq i f hf).next (Nat.lt_of_lt_of_le hg hB) h32 hb⟩
theorem ModAt.keep {w w':World} {M B:Nat} {N k D:Int} {F:List Nat} {C:Nat} {X:Nat→Nat→Rat} (h:ModAt w M B N k D F C X) (hB:B≤w.heap.size) (hb:Below w.heap.size w w'):ModAt w' M B N k D F C X:=h.next (I32.below hb) hb hB
theorem ModAt.up {w:World} {M B B':Nat} {N k D:Int} {F:List Nat} {C:Nat} {X:Nat→Nat→Rat} (h:ModAt w M B N k D F C X) (hB:B≤B'):ModAt w M B' N k D F C X:=by
 obtain⟨v,e3,h3⟩:=h.c3
 obtain⟨GR,e4,hG,h4⟩:=h.c4
 exact⟨Nat.lt_of_lt_of_le h.lt hB,h.c0,h.c1,h.c2,⟨v,e3,h3.up hB⟩,GR,e4,Nat.lt_of_lt_of_le hG hB,fun j hj=>by obtain⟨g,e,hg,hq⟩:=h4 j hj;exact⟨g,e,Nat.lt_of_lt_of_le hg hB,hq⟩⟩
end Go.Proofs.YtenlbhlllgppmaaGreatDoor
namespace Go.Proofs.YtenlbhlllgppmaaGreatDoor
open Go.RowKit
theorem c_Qs (g c n:Nat) (f:Nat→Int) (w:World) (hg:g<w.heap.size) (hc:∀ j,j<n→w.cell? ⟨g,j,none⟩=some (.int .i64 (f j))) (hf:∀ j,j<n→-2147483648≤f j∧f j≤2147483648) (hn:n≤1000000):
  Calls Tryz.prog 58 #[.slice (some ⟨g,0,none⟩) n c] w fun e w'=>(∃ v',e=.returned v'∧OwnQ (fun j=>IsQ (f j:Rat)) w' w.heap.size v' n)∧Below w.heap.size w w':=by
 have HN:=Kh (OwnQ.nil (fun j=>IsQ (f j:Rat)) w w.heap.size)
 have R1:=Kh hc
 have HF:=Kh hf
 clear hc hf
 go_enter Tryz.func58,Tryz.ntmps58
 go_wp2
 go_loopw [3,4] (fun v i wr=>∃ k:Nat,k≤n∧i=.int .i64 k∧OwnQ (fun j=>IsQ (f j:Rat)) wr w.heap.size v k∧Below w.heap.size w wr) (fun _ i _=>n - (intOf i).toNat)
 case atStart=>exact⟨0,Nat.zero_le _,rfl,HN.out,Below.refl _ _⟩
 case round=>
  obtain⟨k,hk,rfl,ho,hb⟩:=hrel
  have HO:=Kh ho
  have HB:=Kh hb
  clear ho HN
  by_cases hlt:k<n
  ·have a0:wr.cell? ⟨g,k,none⟩=some (.int .i64 (f k)):=(hb.cell (p:=⟨g,k,none⟩) hg).trans (R1.out k hlt)
   have HC:=Kh (c_Q (f k) wr (HF.out k hlt).1 (HF.out k hlt).2)
   clear hb
   go_wp2_with fail
   refine HC.out.mono ?_
   rintro e w2 ⟨⟨s,p1,i1,c1,t,q1,m,d1,rfl,hq⟩,hb2⟩
   obtain⟨xs,hK,hX⟩:=HO.out.keep (fun _=>IsQ.solid _) hb2
   have HK:=Kh hK
   have HX:=Kh hX
   have HQ:=Kh (show IsQ (f k:Rat) w2 s p1 i1 c1 t q1 m d1 from hq)
   have HB1:=bt HB hb2
   clear hK hX hq hb2 HO HB a0 HC
   go_wp2_with (at_builtin;refine wpl_app2 NotInt rfl (.tmp 11) (.tmp 17) _ 86 rfl Tryz.underlying30 ratInfo rfl (by decide) w.heap.size k u3 xs [.bool s,.slice p1 i1 c1,.bool t,.slice q1 m d1] rfl HK.out rfl rfl (one4 _ _ _ _ _ _ _ _) (by omega) (by omega) HB1.out.size (ni4 _ _ _ _ _ _ _ _) niz ?_;intro v' w' hown' hgr hat;have HO2:=Kh (OwnQ.push (W:=_) (fun _=>IsQ.solid _) HK.out HX.out HQ.out hown' hgr);have HB2:=Kh (own_below HB1.out HK.out.1 hgr (Nat.le_refl _) HB1.out.size);clear hown' hgr hat)
   go_roundw
   case rel=>exact⟨k+1,by omega,by go_num,HO2.out,HB2.out⟩
   case measure=>simp[intOf];omega
  ·obtain rfl:k=n:=by omega
   clear hb
   go_wp2
   go_ret
   exact⟨⟨_,rfl,HO.out⟩,HB.out⟩
end Go.Proofs.YtenlbhlllgppmaaGreatDoor
