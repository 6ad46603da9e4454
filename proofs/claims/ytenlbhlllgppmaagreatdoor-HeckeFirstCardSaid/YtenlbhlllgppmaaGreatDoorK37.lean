/- Rows of fractions under way: a slice of one's own whose rows stand in blocks of their own; rational.Whole. -/
import Derived.Test.YtenlbhlllgppmaaGreatDoorK21
import Derived.Test.YtenlbhlllgppmaaGreatDoorK35
import Derived.Test.YtenlbhlllgppmaaGreatDoorK36
import Derived.Test.YtenlbhlllgppmaaGreatDoorK33
import Derived.Test.YtenlbhlllgppmaaGreatDoorK13
import Derived.Test.YtenlbhlllgppmaaGreatDoorK27
import Derived.Test.YtenlbhlllgppmaaGreatDoorK26
import Derived.Test.YtenlbhlllgppmaaGreatDoorK29
import Derived.Test.YtenlbhlllgppmaaGreatDoorK19
import Derived.Deep.Upon
import Derived.Test.YtenlbhlllgppmaaGreatDoorK34
import Derived.Test.YtenlbhlllgppmaaGreatDoorK32
set_option linter.unusedSimpArgs false
set_option maxRecDepth 100000
set_option maxHeartbeats 8000000
namespace Go.Proofs.YtenlbhlllgppmaaGreatDoor
open Go.RowKit Eli
theorem hone1 (p:Option Addr) (n c:Nat):∀ u∈[Value.slice p n c],u.oneCell'=true:=by intro u hu;simp at hu;subst hu;rfl
theorem hsv1 (p:Option Addr) (n c:Nat):∀ u∈[Value.slice p n c],SliceV u:=by intro u hu;simp at hu;subst hu;exact⟨p,n,c,rfl⟩
theorem hslZ:∀ u∈(Value.slice none 0 0).cells.toList,SliceV u:=by
 intro u hu
 simp[Value.cells]at hu
 exact⟨none,0,0,hu⟩
def RowsOwn (F:Nat→Nat→Rat) (k C:Nat) (w:World) (B:Nat) (v:Value):Prop:=
 ∃ gs:Nat→Nat,OwnK SliceV w B 30 1 v k ((List.range k).map fun i=>Value.slice (some ⟨gs i,0,none⟩) C C)∧∀ i,i<k→QRow (fun q=>IsQ (F i q)) w (gs i) C C
theorem RowsOwn.keep {F:Nat→Nat→Rat} {k C:Nat} {w w':World} {B:Nat} {v:Value} (h:RowsOwn F k C w B v) (hb:Below w.heap.size w w'):RowsOwn F k C w' B v:=by
 obtain⟨gs,h1,h2⟩:=h
 exact⟨gs,h1.keep hb,fun i hi=>(h2 i hi).keep (fun _=>IsQ.solid _) hb⟩
theorem RowsOwn.nil (F:Nat→Nat→Rat) (C:Nat) (w:World) (B:Nat):RowsOwn F 0 C w B (.slice none 0 0):=⟨fun _=>0,OwnK.nil _ _ _ _ _,fun _ hi=>absurd hi (Nat.not_lt_zero _)⟩
theorem QRow.not_sv {F:Nat→FP} {w:World} {g C r:Nat} (h:QRow F w g C C) (hC:0<C) (hs:Stk SliceV w r):g≠r:=fun e=>by
 obtain⟨s,p,n,c,t,q,m,d,h0,_⟩:=h.val 0 hC
 rw[e]at h0
 obtain⟨p',n',c',h3⟩:=hs.2 _ _ h0
 cases h3
theorem RowsOwn.push {F:Nat→Nat→Rat} {k C:Nat} {W w':World} {B:Nat} {v v':Value} {gs:Nat→Nat} {g:Nat} (hC:0<C) (h1:OwnK SliceV W B 30 1 v k ((List.range k).map fun i=>Value.slice (some ⟨gs i,0,none⟩) C C))
  (h2:∀ i,i<k→QRow (fun q=>IsQ (F i q)) W (gs i) C C) (hr:QRow (fun q=>IsQ (F k q)) W g C C) (h3:OwnK SliceV w' B 30 1 v' (k+1) (((List.range k).map fun i=>Value.slice (some ⟨gs i,0,none⟩) C C)++[.slice (some ⟨g,0,none⟩) C C])) (hg:W.grownBy w' v.ownBlock):RowsOwn F (k+1) C w' B v':=by
 have h32:=I32.grownS h1 hg
 have hne:∀ i b,QRow (fun q=>IsQ (F i q)) W b C C→some b≠v.ownBlock:=fun i b hb e=>hb.not_sv hC (h1.2 b e.symm) rfl
 refine⟨fun i=>if i<k then gs i else g,?_,fun i hi=>?_⟩
 ·have e:((List.range (k+1)).map fun i=>Value.slice (some ⟨if i<k then gs i else g,0,none⟩) C C)=((List.range k).map fun i=>Value.slice (some ⟨gs i,0,none⟩) C C)++[.slice (some ⟨g,0,none⟩) C C]:=by
   rw[List.range_succ,List.map_append,List.map_singleton,if_neg (Nat.lt_irrefl k)]
   congr 1
   exact List.map_congr_left (fun i hi=>by rw[if_pos (List.mem_range.1 hi)])
  rw[e]
  exact h3
 ·by_cases hlt:i<k
  ·dsimp only
   rw[if_pos hlt]
   exact(h2 i hlt).grown (fun _=>IsQ.solid _) h32 hg (hne i _ (h2 i hlt))
  ·obtain rfl:i=k:=by omega
   dsimp only
   rw[if_neg hlt]
   exact hr.grown (fun _=>IsQ.solid _) h32 hg (hne i _ hr)
def RowsIn (F:Nat→Nat→Rat) (k C:Nat) (w:World) (v:Value):Prop:=∃ G c,v=.slice (some ⟨G,0,none⟩) k c∧G<w.heap.size∧∀ i,i<k→∃ g,w.cell? ⟨G,i,none⟩=some (.slice (some ⟨g,0,none⟩) C C)∧QRow (fun q=>IsQ (F i q)) w g C C
theorem RowsIn.keep {F:Nat→Nat→Rat} {k C:Nat} {w w':World} {v:Value} (h:RowsIn F k C w v) (hb:Below w.heap.size w w'):RowsIn F k C w' v:=by
 obtain⟨G,c,e,hG,h1⟩:=h
 refine⟨G,c,e,Nat.lt_of_lt_of_le hG hb.size,fun i hi=>?_⟩
 obtain⟨g,e1,h2⟩:=h1 i hi
 exact⟨g,(hb.cell (p:=⟨G,i,none⟩) hG).trans e1,h2.keep (fun _=>IsQ.solid _) hb⟩
theorem RowsOwn.in_ {F:Nat→Nat→Rat} {k C:Nat} {w:World} {B:Nat} {v:Value} (h:RowsOwn F k C w B v) (hk:0<k):RowsIn F k C w v:=by
 obtain⟨gs,h1,h2⟩:=h
 have h3:=h1.1
 rcases h1.1.2 with⟨_,e2⟩ |⟨G,cap,cs,e1,hB,hg,hn,hcm,hcs,_⟩
 ·omega
 ·subst e1
  have at_:∀ i,i<k→w.cell? ⟨G,i,none⟩=some (.slice (some ⟨gs i,0,none⟩) C C):=fun i hi=>own_read h3 (by rw[List.getElem?_map,List.getElem?_range hi];rfl)
  exact⟨G,cap,rfl,World.block_lt_of_cell? w ⟨G,0,none⟩ (at_ 0 hk),fun i hi=>⟨gs i,at_ i hi,h2 i hi⟩⟩
theorem c_Whole (s:Bool) (p:Option Addr) (n c:Nat) (z:Int) (w:World) (h:Zr w s p n c z) (hn:n≤35184372088830):
  Calls Tryz.prog 94 #[.agg #[.bool s,.slice p n c]] w fun e w'=>RetQ w' e (z:Rat)∧Below w.heap.size w w':=by
 have HC:=Kh (fun w1 (hb:Below w.heap.size w w1)=>c_Normal s p n c z w1 (h.keep hb) hn)
 have HO:=Kh (fun w1=>c_Of 1 w1 (by omega) (by omega))
 clear h hn
 go_enter Tryz.func94,Tryz.ntmps94
 go_wp2_with fail
 obtain⟨w0,hw0,XA,X0,hb0⟩:=bx2 w #[.bool s,.slice p n c] 84 #[.bool false,.slice none 0 0,.bool false,.slice none 0 0] 86
 rw[hw0]
 obtain⟨gp,hgp⟩:∃ x,w.heap.size+1=x:=⟨_,rfl⟩
 rw[hgp]at X0 ⊢
 have HGP:=Kh (show w.heap.size≤gp by omega)
 have HX0:=Kh X0
 have HB0:=Kh hb0
 clear XA X0 hb0 hw0 hgp
 refine(HC.out _ HB0.out).mono ?_
 rintro e w1 ⟨⟨s2,p2,n2,e2,rfl,hz2⟩,hb1⟩
 have HZ2:=Kh hz2
 have HB1:=bt HB0 hb1
 replace HX0:=Kh (bk HX0 hb1)
 clear hz2 hb1 HC
 go_wp2_with fail
 refine(HO.out _).mono ?_
 rintro e w2 ⟨⟨t2,q2,m2,d2,rfl,hz3⟩,hb2⟩
 have HQ:=Kh (show Qs w2 s2 p2 n2 e2 t2 q2 m2 d2 (z:Rat)from⟨HZ2.out.keep hb2,hz3⟩)
 have HR:=Kh (bk HX0 hb2)
 have HB:=bt HB1 hb2
 clear hz3 hb2 HX0 HB1 HZ2 HO HB0
 have r0:=HR.out.at_ 0 rfl
 have r1:=HR.out.at_ 1 rfl
 have r2:=HR.out.at_ 2 rfl
 have r3:=HR.out.at_ 3 rfl
 have f0:=HR.out.free_ 0
 have f1:=HR.out.free_ 1
 have f2:=HR.out.free_ 2
 have f3:=HR.out.free_ 3
 obtain⟨w9,hw9⟩:∃ w9,(((w2.setCell ⟨gp,0,none⟩ (.bool s2)).setCell ⟨gp,1,none⟩ (.slice p2 n2 e2)).setCell ⟨gp,2,none⟩ (.bool t2)).setCell ⟨gp,3,none⟩ (.slice q2 m2 d2)=w9:=⟨_,rfl⟩
 obtain⟨E0,E1,E2,E3,hq9⟩:=rat_put HR.out HQ.out hw9
 have hb9:Below w.heap.size w w9:=by rw[← hw9];exact below_putR HB.out HGP.out _ _ _ _
 have HW9:=Kh hw9
 have HE9:=Kh (And.intro E0 (And.intro E1 (And.intro E2 E3)))
 have HQ9:=Kh hq9
 have HB9:=Kh hb9
 clear E0 E1 E2 E3 hq9 hb9 hw9 HQ HB HR
 go_wp2
 try rw[HW9.out]
 obtain⟨E0,E1,E2,E3⟩:=HE9.out
 try simp only[Exit.inBlock,Exit.then]
 refine bodyPost_ret (by simp[results,Tryz.results94,go_sem,E0,E1,E2,E3];try rfl) rfl ?_
 exact⟨⟨s2,p2,n2,e2,t2,q2,m2,d2,rfl,HQ9.out⟩,HB9.out⟩
theorem c_Relations_bad (N k D:Int) (w:World) (hck:Pl.check N k D≠0):
  Calls Tryz.prog 47 #[.agg #[.int .i64 N,.int .i64 k,.int .i64 D]] w fun e w'=>e=.returned (.tuple #[.agg #[.int .i64 0,.int .i64 0,.slice none 0 0],.int .i64 (Pl.check N k D)])∧Below w.heap.size w w':=by
 have HEN:=Kh (fun W=>c_enter_bad N k D W hck)
 obtain⟨er,her⟩:∃ er,Pl.check N k D=er:=⟨_,rfl⟩
 rw[her]at hck HEN ⊢
 have hne:(er != 0)=true:=by simpa using hck
 clear her hck
 go_enter Tryz.func47,Tryz.ntmps47
 go_wp2_with fail
 obtain⟨w0,hw0,X0,X1,hb0⟩:=bx2 w #[.int .i64 N,.int .i64 k,.int .i64 D] 23 #[.int .i64 0,.int .i64 0,.slice none 0 0] 99
 rw[hw0]
 refine(HEN.out w0).mono ?_
 rintro e w1 ⟨rfl,hb1⟩
 have HX1:=Kh (X1.below_ hb1 X1.lt)
 have HB1:=Kh (hb0.trans (hb1.mono hb0.size))
 obtain⟨gr,hgr⟩:∃ x,w.heap.size+1=x:=⟨_,rfl⟩
 have HGR:=Kh hgr
 rw[hgr]at HX1 ⊢
 have r0:=HX1.out.at_ 0 rfl
 have r1:=HX1.out.at_ 1 rfl
 have r2:=HX1.out.at_ 2 rfl
 have f0:=HX1.out.free_ 0
 have f1:=HX1.out.free_ 1
 have f2:=HX1.out.free_ 2
 have HE3:=Kh (put3_at (w:=w1) (R:=gr) (v0:=.int .i64 0) (v1:=.int .i64 0) (v2:=.slice none 0 0) (by rw[r0];rfl) (by rw[r1];rfl) (by rw[r2];rfl))
 clear hw0 X0 X1 hb0 hb1 hgr HEN
 go_wp2
 have e0:=HE3.out.1
 have e1:=HE3.out.2.1
 have e2:=HE3.out.2.2
 try simp only[Exit.inBlock,Exit.then]
 refine bodyPost_ret (by simp[results,Tryz.results47,go_sem,e0,e1,e2];try rfl) rfl ?_
 exact⟨rfl,((HB1.out.setCell (p:=⟨gr,0,none⟩) (by have:=HGR.out;show w.heap.size≤gr;omega) _).setCell (p:=⟨gr,1,none⟩) (by have:=HGR.out;show w.heap.size≤gr;omega) _).setCell (p:=⟨gr,2,none⟩) (by have:=HGR.out;show w.heap.size≤gr;omega) _⟩
theorem c_New_check (N k D:Int) (w:World) (hck:Pl.check N k D≠0):
  Calls Tryz.prog 11 #[.agg #[.int .i64 N,.int .i64 k,.int .i64 D]] w fun e w'=>e=.returned (.tuple #[.pointer none,.int .i64 (Pl.check N k D)])∧Below w.heap.size w w':=
 c_New_bad N k D (Pl.check N k D) w (fun w1 _=>(c_Relations_bad N k D w1 hck).mono (fun _ _ h=>⟨⟨0,0,h.1⟩,h.2⟩)) hck
end Go.Proofs.YtenlbhlllgppmaaGreatDoor
namespace Go.Proofs.YtenlbhlllgppmaaGreatDoor
open Go.RowKit
theorem own_at {K:Value→Prop} {w:World} {B E sz n:Nat} {v:Value} {xs:List Value} (h:OwnK K w B E sz v n xs) (hn:0<n):∃ g cap,v=.slice (some ⟨g,0,none⟩) n cap∧n≤cap∧cap≤9223372036854775807∧B≤g∧g<w.heap.size∧(∀ i,w.frozen? ⟨g,i,none⟩=false)∧∀ (j:Nat) u,xs[j]?=some u→w.cell? ⟨g,j,none⟩=some u:=by
 rcases h.1.2 with⟨_,e2⟩ |⟨g,cap,cs,e1,hB,hg,hc,hcm,hcs,_⟩
 ·omega
 ·have hs:=h.2 g (by rw[e1];rfl)
  subst e1
  exact⟨g,cap,rfl,hc,by simp only[maxLen]at hcm;omega,hB,hs.1,fun i=>Blk.free_ hg i,fun j u hu=>own_read h.1 hu⟩
end Go.Proofs.YtenlbhlllgppmaaGreatDoor
namespace Go.Proofs.YtenlbhlllgppmaaGreatDoor
open Go.RowKit Eli
theorem QL.r4 {x y:Nat→Int} {w:World} {v:Value} {n:Nat} (h:QL (fun j=>IsR (x j) (y j)) w v n):QL (fun j=>IsB 4000 (x j) (y j)) w v n:=by
 rcases h with h |⟨g,o,c,h1,h2,h3⟩
 ·exact .inl h
 ·exact .inr ⟨g,o,c,h1,h2,fun j hj=>by
   obtain⟨s,p,k,c',t,q,m,d,e0,e1,e2,e3,hx⟩:=h3 j hj
   exact⟨s,p,k,c',t,q,m,d,e0,e1,e2,e3,hx.1,hx.2.1,Nat.le_trans hx.2.2.1 (by decide),Nat.le_trans hx.2.2.2 (by decide)⟩⟩
theorem QL.boxed {F:Nat→FP} (hF:∀ j,Solid (F j)) {w w':World} {p:Option Addr} {n c R:Nat} (h:QL F w (.slice p n c) n) (h32:I32 w w') (hg:w.grownBy w' (some R)) (hne:∀ a,p=some a→a.block≠R):QL F w' (.slice p n c) n:=by
 rcases h with h |⟨g,o,cap,e,hlt,hq⟩
 ·exact .inl h
 ·injection e with e1 e2 e3
  subst e1
  have hn:(some g:Option Nat)≠some R:=fun e=>hne _ rfl (by injection e)
  refine .inr ⟨g,o,c,rfl,Nat.lt_of_lt_of_le hlt hg.size,fun j hj=>?_⟩
  obtain⟨s,p,k,c,t,q,m,d,h0,h1,h2,h3,h4⟩:=hq j hj
  exact⟨s,p,k,c,t,q,m,d,hg.cell h0 hn,hg.cell h1 hn,hg.cell h2 hn,hg.cell h3 hn,hF j _ _ _ _ _ _ _ _ _ _ h32 h4⟩
theorem own_from {F:Nat→FP} {w:World} {B n:Nat} {p:Option Addr} {c:Nat} (h:OwnQ F w B (.slice p n c) n):∀ a,p=some a→B≤a.block:=by
 intro a ha
 rcases h.row with⟨_,h1⟩ |⟨g,cap,h1,hB,_⟩
 ·injection h1 with h2
  rw[ha]at h2
  cases h2
 ·injection h1 with h2
  rw[ha]at h2
  injection h2 with h2
  rw[h2]
  exact hB
theorem c_FromRows (F:Nat→Nat→Rat) (R C:Nat) (v:Value) (w:World) (h:RowsIn F R C w v) (hR:0<R) (hR':R≤1000) (hC0:0<C) (hC:C≤1000) (hs:∀ i q,i<R→q<C→hq (F i q)≤1000000000):
  Calls Tryz.prog 62 #[.int .i64 C,v] w fun e w'=>(∃ p c,e=.returned (.tuple #[.agg #[.int .i64 R,.int .i64 C,.slice p (R*C) c],.int .i64 0])∧QL (fun j=>IsQ (F (j / C) (j % C))) w' (.slice p (R*C) c) (R*C))∧Below w.heap.size w w':=by
 obtain⟨G,cG,rfl,hG,hrow⟩:=h
 have HRW:=Kh (fun W (hb:Below w.heap.size w W) i (hi:i<R)=>(show ∃ g,W.cell? ⟨G,i,none⟩=some (.slice (some ⟨g,0,none⟩) C C)∧QRow (fun q=>IsQ (F i q)) W g C C by
  obtain⟨g,e1,h2⟩:=hrow i hi
  exact⟨g,(hb.cell (p:=⟨G,i,none⟩) hG).trans e1,h2.keep (fun _=>IsQ.solid _) hb⟩))
 have HS:=Kh hs
 clear hG hrow hs
 go_enter Tryz.func62,Tryz.ntmps62
 go_wp2_with fail
 obtain⟨w0,hw0,X0,hb0⟩:=bx1 w #[.int .i64 0,.int .i64 0,.slice none 0 0] 32
 rw[hw0]
 refine(c_mfits C w0 (by omega)).mono ?_
 rintro e w1 ⟨rfl,hb1⟩
 have HX1:=Kh (X0.below_ hb1 X0.lt)
 have HB1:=Kh (hb0.trans (hb1.mono hb0.size))
 clear hw0 X0 hb0 hb1
 go_wp2_with fail
 refine(c_mfits R w1 (by omega)).mono ?_
 rintro e w2 ⟨rfl,hb2⟩
 have HX2:=Kh (bk HX1 hb2)
 have HB2:=bt HB1 hb2
 have hCC:((C:Int) !=(C:Int))=false:=by simp
 clear hb2 HX1 HB1
 go_wp2_with fail
 obtain⟨wx,hwx⟩:∃ wx,w2.alloc (.cells #[.int .i64 R,.int .i64 C,.slice none 0 0] 32)=wx:=⟨_,rfl⟩
 have hbx:Below w2.heap.size w2 wx:=hwx▸(Below.refl _ _).alloc (Nat.le_refl _) _
 have Y:Blk wx w2.heap.size 32 #[.int .i64 R,.int .i64 C,.slice none 0 0]:=hwx▸Blk.new w2 32 #[.int .i64 R,.int .i64 C,.slice none 0 0]
 obtain⟨ob,hob⟩:∃ x,w2.heap.size=x:=⟨_,rfl⟩
 obtain⟨gr,hgr⟩:∃ x,w.heap.size=x:=⟨_,rfl⟩
 have HGE:=Kh hgr
 have hxl:=HX2.out.lt
 have HB2':=HB2.out
 rw[hgr]at HX2 hxl
 rw[hob]at Y hbx hxl
 have HGRO:=Kh hxl
 have HBX:=Kh (show Below gr w wx from hgr▸HB2'.trans (hbx.mono (hob▸HB2'.size)))
 have HXR:=Kh (show Blk wx gr 32 #[.int .i64 0,.int .i64 0,.slice none 0 0]from HX2.out.below_ (hob▸hbx) HX2.out.lt)
 obtain⟨BB,hBB⟩:∃ x,wx.heap.size=x:=⟨_,rfl⟩
 have HBB:=Kh hBB
 obtain⟨V,hV⟩:∃ V:Nat→FP,(fun p=>IsQ (F (p / C) (p % C)))=V:=⟨_,rfl⟩
 have HVS:=Kh (show ∀ j,Solid (V j)from fun j=>by rw[← hV];exact IsQ.solid _)
 have HVV:=Kh (show ∀ k i,i<C→V (k*C+i)=IsQ (F k i)from fun k i hi=>by
  rw[← hV]
  dsimp only
  rw[show(k*C+i) / C=k by rw[Nat.mul_comm,Nat.mul_add_div (by omega),Nat.div_eq_of_lt hi,Nat.add_zero],show(k*C+i) % C=i by rw[Nat.mul_comm,Nat.mul_add_mod,Nat.mod_eq_of_lt hi]])
 have HVE:=Kh hV
 have HM0:=Kh (show MatAt V wx ob BB R C (0*C)from
  ⟨by rw[← hBB];exact Y.lt,Nat.le_of_eq hBB.symm,Y.at_ 0 rfl,Y.at_ 1 rfl,⟨none,0,by rw[Nat.zero_mul];exact Y.at_ 2 rfl,by rw[Nat.zero_mul];exact OwnQ.nil _ _ _⟩,Y.free_ 2,Stk.of Y (by intro v hv;simp at hv;rcases hv with rfl|rfl|rfl <;> exact fun _ h=>by cases h)⟩)
 rw[hwx]
 try rw[hob]
 try rw[hgr]
 clear hwx hob hbx Y hgr hBB hV HB2' HX2 HB2 hxl
 go_loopw [25] (fun ii wr=>∃ k:Nat,k≤R∧ii=.int .i64 k∧MatAt V wr ob BB R C (k*C)∧wx.grownBy wr (some ob)) (fun ii _=>R - (intOf ii).toNat)
 case atStart=>exact⟨0,Nat.zero_le _,rfl,HM0.out,but_below ob (Below.refl _ _)⟩
 case round=>
  obtain⟨k,hk,rfl,hmat,hgw⟩:=hrel
  obtain⟨we,rfl⟩:∃ we:World,we=wr:=⟨_,rfl⟩
  have HMT:=Kh hmat
  have HGW:=Kh hgw
  clear hmat hgw HM0
  have HBW:=Kh (show Below gr w we from below_but HBX.out HGW.out (by have:=HBB.out;have:=HMT.out.lt;have:=HGRO.out;omega) (Nat.le_of_lt HGRO.out))
  by_cases hlt:k<R
  ·have hki:(k:Int)<(R:Int):=by omega
   have hbw:=HBW.out
   rw[← HGE.out]at hbw
   obtain⟨g,r4,hrw⟩:=HRW.out we hbw k hlt
   have HRR:=Kh hrw
   obtain⟨p,c,g2,xs,hK,hXX⟩:=HMT.out.c2
   obtain⟨n,hn⟩:∃ x,k*C=x:=⟨_,rfl⟩
   have hnl:n≤1024*1024:=by rw[← hn];exact Nat.mul_le_mul (by omega:k≤1024) (by omega)
   rw[hn]at g2 hK hXX HMT
   have HKC:=Kh (show n+C=(k+1)*C by rw[← hn,Nat.add_mul,Nat.one_mul])
   have HGV2:=Kh (show ∀ j,j<C→V (n+j)=IsQ (F k j)from fun j hj=>by rw[← hn];exact HVV.out k j hj)
   have HK:=Kh hK
   have HXX:=Kh hXX
   have HG2:=Kh g2
   have hobl:ob<we.heap.size:=Nat.lt_of_lt_of_le HMT.out.lt HMT.out.hB
   clear hbw hrw hK hXX hn
   go_wp2_with (at_builtin;refine wpl_appN NotInt rfl (.tmp 35) (.tmp 36) _ 86 rfl Tryz.underlying30 ratInfo rfl (by decide) BB n C g C (.slice p n c) xs (rowCells we g (C*4)) rfl HK.out rfl (rowCells_length _ _ _) HRR.out.cells HRR.out.one (by omega) (by omega) hC0 HMT.out.hB HRR.out.ni niz ?_;intro v9 w9 hown9 hgr9 hat9;obtain⟨p9,c9,rfl⟩:=own_slice hown9.1;obtain⟨d2,df,hM9⟩:=HMT.out.more HVS.out HG2.out HK.out.1 (OwnQ.more HVS.out HK.out HXX.out HRR.out hown9 hgr9 HGV2.out) hgr9;have HM9:=Kh hM9;have HG9:=Kh ((grown_own HGW.out hgr9 HBB.out.symm (fun b hb=>own_ge HK.out.1 hb.symm)).trans (but_put w9 ob 2 (.slice p9 (n+C) c9)));clear hM9 hown9 hgr9 hat9 g2)
   go_roundw
   case rel=>exact⟨k+1,by omega,by go_num,by rw[← HKC.out];exact HM9.out,HG9.out⟩
   case measure=>simp[intOf];omega
  ·obtain rfl:R=k:=by omega
   obtain⟨p,c,g2,hOQ⟩:=HMT.out.c2
   have a0:=HMT.out.c0
   have a1:=HMT.out.c1
   obtain⟨n,hn⟩:∃ x,R*C=x:=⟨_,rfl⟩
   have hn0:0<n:=by rw[← hn];exact Nat.mul_pos hR hC0
   rw[hn]at g2 hOQ HMT
   obtain⟨g,cap,hsl,hge,hqr⟩:=hOQ.row.resolve_left (fun h=>by omega)
   injection hsl with s1 s2 s3
   subst s1 s3
   have HQR:=Kh hqr
   have HN:=Kh hn
   have hgo:gr≠ob:=Nat.ne_of_lt HGRO.out
   have hblk:=HGW.out.block gr (by rw[HBB.out];have:=HGRO.out;have:=HMT.out.lt;omega) (fun e=>by injection e with e;exact hgo e)
   have r0:=HGW.out.cell (HXR.out.at_ 0 rfl) (fun e=>by injection e with e;exact hgo e)
   have r1:=HGW.out.cell (HXR.out.at_ 1 rfl) (fun e=>by injection e with e;exact hgo e)
   have r2:=HGW.out.cell (HXR.out.at_ 2 rfl) (fun e=>by injection e with e;exact hgo e)
   have f0:we.frozen? ⟨gr,0,none⟩=false:=(World.frozen?_of_block (a:=⟨gr,0,none⟩) hblk).trans (HXR.out.free_ 0)
   have f1:we.frozen? ⟨gr,1,none⟩=false:=(World.frozen?_of_block (a:=⟨gr,1,none⟩) hblk).trans (HXR.out.free_ 1)
   have f2:we.frozen? ⟨gr,2,none⟩=false:=(World.frozen?_of_block (a:=⟨gr,2,none⟩) hblk).trans (HXR.out.free_ 2)
   have hstB:Stk NotU32 wx gr:=Stk.of HXR.out (by intro v hv;simp at hv;rcases hv with rfl|rfl|rfl <;> exact fun _ h=>by cases h)
   have hst:Stk NotU32 we gr:=⟨Nat.lt_of_lt_of_le hstB.1 HGW.out.size,fun i u hu=>hstB.2 i u ((World.cell?_of_block (a:=⟨gr,i,none⟩) hblk).symm.trans hu)⟩
   have HR012:=Kh (And.intro r0 (And.intro r1 (And.intro r2 (And.intro f0 (And.intro f1 (And.intro f2 hst))))))
   clear r0 r1 r2 f0 f1 f2 hblk hstB hst hqr hOQ hn HMT
   go_wp2_with fail
   refine(c_load R C n g 0 c (fun j=>F (j / C) (j % C)) F we HQR.out.sts.1 (fun j hj=>by
    have h1:=HQR.out.val j hj
    rw[← HVE.out]at h1
    rw[Nat.zero_add]
    exact h1) HN.out (by omega) (by omega) (fun j hj=>HS.out _ _ (Nat.div_lt_of_lt_mul (by rw[Nat.mul_comm,HN.out];exact hj)) (Nat.mod_lt _ hC0)) (fun i q hq=>by
    rw[show(i*C+q) / C=i by rw[Nat.mul_comm,Nat.mul_add_div (by omega),Nat.div_eq_of_lt hq,Nat.add_zero],show(i*C+q) % C=q by rw[Nat.mul_comm,Nat.mul_add_mod,Nat.mod_eq_of_lt hq]])).mono ?_
   rintro e w5 ⟨⟨G5,gs5,rfl,hgm⟩,hb5⟩
   have HGM:=Kh hgm
   have HB5:=Kh hb5
   clear hgm hb5
   go_wp2_with fail
   refine(c_mstore F R C R G5 R gs5 we.heap.size w5 HGM.out (Nat.le_refl _) (by omega) hC0 (by omega)).mono ?_
   rintro e w6 ⟨⟨v6,rfl,ho6⟩,hb6⟩
   obtain⟨p6,c6,rfl⟩:∃ p c,v6=.slice p (R*C) c:=by
    obtain⟨_,hk6,_⟩:=ho6
    exact own_slice hk6.1
   have hb56:=HB5.out.trans (hb6.mono HB5.out.size)
   obtain⟨r0,r1,r2,f0,f1,f2,hst⟩:=HR012.out
   have q0:=cell_next hb56 r0
   have q1:=cell_next hb56 r1
   have q2:=cell_next hb56 r2
   have h0:=frozen_keep hb56 (by rw[r0];rfl) f0
   have h1:=frozen_keep hb56 (by rw[r1];rfl) f1
   have h2:=frozen_keep hb56 (by rw[r2];rfl) f2
   have hst6:=hst.next hb56
   have HE3:=Kh (put3_at (w:=w6) (R:=gr) (v0:=.int .i64 (R:Int)) (v1:=.int .i64 (C:Int)) (v2:=.slice p6 (R*C) c6) (by rw[q0];rfl) (by rw[q1];rfl) (by rw[q2];rfl))
   have HI3:=Kh (put3_32 hst6 (v0:=.int .i64 (R:Int)) (v1:=.int .i64 (C:Int)) (v2:=.slice p6 (R*C) c6) (fun _ h=>by cases h) (fun _ h=>by cases h))
   have HG3:=Kh (((but_put w6 gr 0 (.int .i64 (R:Int))).trans (but_put _ gr 1 (.int .i64 (C:Int)))).trans (but_put _ gr 2 (.slice p6 (R*C) c6)))
   have HQ6:=Kh ho6.ql
   have HF6:=Kh (own_from ho6)
   have HGL:=Kh (show gr<w5.heap.size from Nat.lt_of_lt_of_le hst.1 HB5.out.size)
   have HBF:=Kh (show Below gr w w6 from HBW.out.trans (hb56.mono (by have:=hst.1;omega)))
   clear r0 r1 r2 f0 f1 f2 hst hst6 hb56 hb6 ho6
   go_wp2
   have e0:=HE3.out.1
   have e1:=HE3.out.2.1
   have e2:=HE3.out.2.2
   try simp only[Exit.inBlock,Exit.then]
   refine bodyPost_ret (by simp[results,Tryz.results62,go_sem,e0,e1,e2];try rfl) rfl ?_
   exact⟨⟨p6,c6,rfl,HQ6.out.boxed (fun _=>IsQ.solid _) HI3.out HG3.out (fun a ha=>by have:=HF6.out a ha;have:=HGL.out;omega)⟩,below_but (HGE.out▸HBF.out) HG3.out (by have:=HBF.out.size;have:=HGE.out;have:=HGL.out;omega) (by have:=HGE.out;omega)⟩
theorem c_mwide (a b c d:Int) (w:World) (ha:-1073741824≤a) (ha':a≤1073741824) (hb:-1073741824≤b) (hb':b≤1073741824) (hc:-1073741824≤c) (hc':c≤1073741824) (hd:-1073741824≤d) (hd':d≤1073741824):
  Calls Tryz.prog 148 #[.agg #[.int .i64 a,.int .i64 b,.int .i64 c,.int .i64 d]] w fun e w'=>e=.returned (.bool false)∧Below w.heap.size w w':=by
 have HR:=Kh (And.intro (And.intro ha ha') (And.intro (And.intro hb hb') (And.intro (And.intro hc hc') (And.intro hd hd'))))
 clear ha ha' hb hb' hc hc' hd hd'
 have hi0:∀ W:World,(Instr.index 121 (.agg #[.int .i64 a,.int .i64 b,.int .i64 c,.int .i64 d]) (.int .i64 0)).run Tryz.prog W=.ok (.int .i64 a) W:=fun W=>by kernel_rfl
 have hi1:∀ W:World,(Instr.index 121 (.agg #[.int .i64 a,.int .i64 b,.int .i64 c,.int .i64 d]) (.int .i64 1)).run Tryz.prog W=.ok (.int .i64 b) W:=fun W=>by kernel_rfl
 have hi2:∀ W:World,(Instr.index 121 (.agg #[.int .i64 a,.int .i64 b,.int .i64 c,.int .i64 d]) (.int .i64 2)).run Tryz.prog W=.ok (.int .i64 c) W:=fun W=>by kernel_rfl
 have hi3:∀ W:World,(Instr.index 121 (.agg #[.int .i64 a,.int .i64 b,.int .i64 c,.int .i64 d]) (.int .i64 3)).run Tryz.prog W=.ok (.int .i64 d) W:=fun W=>by kernel_rfl
 go_enter Tryz.func148,Tryz.ntmps148
 go_wp2_with fail
 go_loopw [14] (fun ii wr=>∃ k:Nat,k≤4∧ii=.int .i64 k∧Below w.heap.size w wr) (fun ii _=>4 - (intOf ii).toNat)
 case atStart=>exact⟨0,by decide,rfl,(Below.refl _ _).alloc (Nat.le_refl _) _⟩
 case round=>
  obtain⟨k,hk,rfl,hbe⟩:=hrel
  obtain⟨we,rfl⟩:∃ we:World,we=wr:=⟨_,rfl⟩
  have HBE:=Kh hbe
  clear hbe
  rcases(by omega:k=4∨k<4)with rfl|hk4
  ·go_wp2
   go_ret
   exact⟨rfl,HBE.out⟩
  ·rcases(by omega:k=0∨k=1∨k=2∨k=3)with rfl|rfl|rfl|rfl
   ·have l1:¬ a < -1073741824:=by have:=HR.out;omega
    have l2:¬ 1073741824<a:=by have:=HR.out;omega
    go_wp2
    go_roundw
    case rel=>exact⟨1,by omega,by go_num,HBE.out⟩
    case measure=>simp[intOf]
   ·have l1:¬ b < -1073741824:=by have:=HR.out;omega
    have l2:¬ 1073741824<b:=by have:=HR.out;omega
    go_wp2
    go_roundw
    case rel=>exact⟨2,by omega,by go_num,HBE.out⟩
    case measure=>simp[intOf]
   ·have l1:¬ c < -1073741824:=by have:=HR.out;omega
    have l2:¬ 1073741824<c:=by have:=HR.out;omega
    go_wp2
    go_roundw
    case rel=>exact⟨3,by omega,by go_num,HBE.out⟩
    case measure=>simp[intOf]
   ·have l1:¬ d < -1073741824:=by have:=HR.out;omega
    have l2:¬ 1073741824<d:=by have:=HR.out;omega
    go_wp2
    go_roundw
    case rel=>exact⟨4,by omega,by go_num,HBE.out⟩
    case measure=>simp[intOf]
theorem c_MApply (n wt:Nat) (D:Int) (r:Nat) (a b c d:Int) (w:World) (hT:Tab w) (hck:Pl.check n ((wt:Int)+2) D=0) (hr:r<cntF n wt) (ha:-1073741824≤a) (ha':a≤1073741824) (hb:-1073741824≤b) (hb':b≤1073741824) (hc:-1073741824≤c) (hc':c≤1073741824) (hd:-1073741824≤d) (hd':d≤1073741824):
  Calls Tryz.prog 100 #[.agg #[.int .i64 n,.int .i64 ((wt:Int)+2),.int .i64 D],.int .i64 r,.agg #[.int .i64 a,.int .i64 b,.int .i64 c,.int .i64 d]] w fun e w'=>(∃ G,e=.returned (.tuple #[.slice (some ⟨G,0,none⟩) (cntF n wt) (cntF n wt),.int .i64 0])∧w.heap.size≤G∧ZRow (mvd n wt (pts n (n*n)) (plAll n D (pts n (n*n)) n) (r / (pts n (n*n)).length) (r % (pts n (n*n)).length) (a,b,c,d)) w' G (cntF n wt) (cntF n wt))∧Below w.heap.size w w':=by
 obtain⟨⟨q1,q2⟩,⟨q5,q6⟩,⟨q3,q4⟩,_,_⟩:=Pl.check_ok hck
 have h0:0<n:=by omega
 have hn:n≤120:=by omega
 have hwt:wt≤22:=by omega
 obtain⟨L,hL⟩:∃ L,pts n (n*n)=L:=⟨_,rfl⟩
 obtain⟨f,hf⟩:∃ f,plAll n D L n=f:=⟨_,rfl⟩
 obtain⟨m,hm⟩:∃ m,L.length=m:=⟨_,rfl⟩
 obtain⟨CC,hCC⟩:∃ x,cntF n wt=x:=⟨_,rfl⟩
 have hCm:(wt+1)*m=CC:=by rw[← hCC,← hm,← hL];rfl
 have hm0:0<m:=by rw[← hm,← hL];exact pts_zero h0
 have hLl:m≤14400:=by rw[← hm,← hL];exact Nat.le_trans (pts_length n (n*n)) (Nat.mul_le_mul hn hn)
 have hTO:TabOk L.length f:=by rw[← hf,← hL];exact plAll_ok (kro3 D) n
 have hLn:∀ x,x∈L→x<n*n:=fun x hx=>by rw[← hL]at hx;exact pts_lt hx
 obtain⟨i,hi⟩:∃ i,r / m=i:=⟨_,rfl⟩
 obtain⟨j,hj⟩:∃ j,r % m=j:=⟨_,rfl⟩
 have hjm:j<m:=by rw[← hj];exact Nat.mod_lt _ hm0
 have HEN:=Kh (fun W (hb:Below w.heap.size w W)=>c_enter_ok n wt D W (hT.below hb) h0 hn hwt q3 q4 hck)
 have HWI:=Kh (fun W=>c_mwide a b c d W ha ha' hb hb' hc hc' hd hd')
 rw[hL,hf]at HEN
 have HCW:=Kh (fun T B W (h:WorldAt W T B n wt L f)=>c_countW T B n wt L f W h hwt (by omega))
 have HMO:=Kh (fun T B W (h:WorldAt W T B n wt L f) (hB:B≤W.heap.size)=>c_movedM T B n wt L f i j a b c d W h hB h0 hn hwt (by omega) (by omega) hLn hTO ha ha' hb hb' hc hc' hd hd')
 rw[hm,hCm]at HMO HCW
 rw[hCC]at hr ⊢
 rw[hL,hf,hm,hi,hj]
 have hr0:¬ (r:Int)<0:=by omega
 have hrc:¬ (CC:Int)≤(r:Int):=by omega
 have hCl:CC≤331200:=by rw[← hCm];exact Nat.mul_le_mul (by omega:wt+1≤23) hLl
 have hil:i≤331200:=by rw[← hi];exact Nat.le_trans (Nat.div_le_self _ _) (by omega)
 have e1:Int.tdiv (r:Int) (m:Int)=(i:Nat):=by rw[Int.tdiv_eq_ediv_of_nonneg (by omega),← hi];rfl
 have e2:Int.tmod (r:Int) (m:Int)=(j:Nat):=by rw[Int.tmod_eq_emod_of_nonneg (by omega),← hj];rfl
 have e3:((m:Int)==0)=false:=beq_eq_false_iff_ne.2 (by omega)
 have e4:m≠0:=by omega
 have v1:IntKind.i64.wrap (i:Int)=(i:Nat):=IntWalk.i64_in _ (by omega)
 have v2:IntKind.i64.wrap (j:Int)=(j:Nat):=IntWalk.i64_in _ (by omega)
 have HML:=Kh hm
 clear hT hck hr hi hj hCm hCC hLn hTO hf hL ha ha' hb hb' hc hc' hd hd' q1 q2 q3 q4 q5 q6 hm
 go_enter Tryz.func100,Tryz.ntmps100
 go_wp2_with fail
 obtain⟨w0,hw0,XS,XM,hb0⟩:=bx2 w #[.int .i64 n,.int .i64 ((wt:Int)+2),.int .i64 D] 23 #[.int .i64 a,.int .i64 b,.int .i64 c,.int .i64 d] 63
 rw[hw0]
 obtain⟨gM,hgM⟩:∃ x,w.heap.size+1=x:=⟨_,rfl⟩
 rw[hgM]at XM ⊢
 have HXM:=Kh XM
 have HB0:=Kh hb0
 clear hw0 XS XM hgM hb0
 refine(HEN.out w0 HB0.out).mono ?_
 rintro e w1 ⟨⟨T,rfl,hwa⟩,hb1⟩
 have HWA:=Kh hwa
 have HXM1:=Kh (bk HXM hb1)
 have HB1:=bt HB0 hb1
 clear hwa hb1 HXM HB0 HEN
 go_wp2_with fail
 refine(HCW.out T w1.heap.size w1 HWA.out).mono ?_
 rintro e w2 ⟨rfl,nd,hnd⟩
 have hb2:Below w1.heap.size w1 w2:=by rw[hnd];exact below_drewN' (Below.refl _ _) nd
 have HWA2:=Kh (HWA.out.keep (Nat.le_refl _) hb2)
 have HXM2:=Kh (bk HXM1 hb2)
 have HB2:=bt HB1 hb2
 have HSZ:=Kh hb2.size
 clear hnd hb2 HXM1 HB1 HWA HCW
 have g0:=HXM2.out.at_ 0 rfl
 have g1:=HXM2.out.at_ 1 rfl
 have g2:=HXM2.out.at_ 2 rfl
 have g3:=HXM2.out.at_ 3 rfl
 go_wp2_with fail
 refine(HWI.out w2).mono ?_
 rintro e w3 ⟨rfl,hb3⟩
 clear g0 g1 g2 g3
 have hwa3:=HWA2.out.next hb3 HSZ.out
 obtain⟨pL,cL,b2,_⟩:=hwa3.c2
 rw[HML.out]at b2
 have XM3:=bk HXM2 hb3
 have g0:=XM3.at_ 0 rfl
 have g1:=XM3.at_ 1 rfl
 have g2:=XM3.at_ 2 rfl
 have g3:=XM3.at_ 3 rfl
 have HB3:=bt HB2 hb3
 have HMV:=Kh (fun W (hb:Below w3.heap.size w3 W)=>HMO.out T w1.heap.size W (hwa3.next (hb.mono (Nat.le_refl _)) (Nat.le_trans HSZ.out hb3.size)) (Nat.le_trans (Nat.le_trans HSZ.out hb3.size) hb.size))
 clear hwa3 XM3 hb3 HXM2 HWA2 HB2 HMO HWI HSZ
 go_upto_region 6 with(fail)
 refine rgX [17,18] (fun W=>W.cell? ⟨T,2,none⟩=some (.slice pL m cL)∧W.cell? ⟨gM,0,none⟩=some (.int .i64 a)∧W.cell? ⟨gM,1,none⟩=some (.int .i64 b)∧W.cell? ⟨gM,2,none⟩=some (.int .i64 c)∧W.cell? ⟨gM,3,none⟩=some (.int .i64 d)) (fun W hb=>⟨cnx hb b2,cnx hb g0,cnx hb g1,cnx hb g2,cnx hb g3⟩) (fun HSE hHeld0=>?_)
 refine tkX 0 ?_;refine tkX 1 ?_;refine tkX 2 ?_;refine tkX 3 ?_;refine tkX 4 ?_;refine tkX 5 ?_;refine tkX 6 ?_;refine tkX 7 ?_;refine tkX 8 ?_;refine tkX 9 ?_;refine tkX 10 ?_;refine tkX 11 ?_;refine tkX 12 ?_;refine tkX 13 ?_;refine tkX 14 ?_;refine tkX 15 ?_
 refine snX 16 rfl (fun K hK=>?_)
 focus(go_simp;(with_reducible refine(HMV.out _ (Below.refl _ w3).drew).mono ?_);rintro e w4 ⟨⟨G,rfl,hge4,hrow4⟩,hb4⟩;have HB4:=Kh ((Below.refl _ w3).drew.trans hb4:Below w3.heap.size w3 w4);have HRO:=Kh hrow4;have HGE:=Kh (show w3.heap.size≤G from hge4);clear hge4 hrow4 hb4;(first|with_reducible refine hK.out _ _ ?_ |(go_wp2_with fail;with_reducible refine hK.out _ _ ?_)))
 clear hK K
 (try simp only[Act.put,lsa,lsz,lss])
 refine tkJ 17 ?_;refine tkJ 18 ?_
 refine dnX ?_
 go_wp2
 go_ret2
 exact⟨⟨G,rfl,Nat.le_trans HB3.out.size HGE.out,HRO.out⟩,HB3.out.trans (HB4.out.mono HB3.out.size)⟩
theorem c_MCount (n wt:Nat) (D:Int) (w:World) (hT:Tab w) (hck:Pl.check n ((wt:Int)+2) D=0):
  Calls Tryz.prog 99 #[.agg #[.int .i64 n,.int .i64 ((wt:Int)+2),.int .i64 D]] w fun e w'=>e=.returned (.tuple #[.int .i64 (cntF n wt:Nat),.int .i64 0])∧Below w.heap.size w w':=by
 obtain⟨⟨q1,q2⟩,⟨q5,q6⟩,⟨q3,q4⟩,_,_⟩:=Pl.check_ok hck
 have h0:0<n:=by omega
 have hn:n≤120:=by omega
 have hwt:wt≤22:=by omega
 obtain⟨L,hL⟩:∃ L,pts n (n*n)=L:=⟨_,rfl⟩
 have hLl:L.length≤14400:=by rw[← hL];exact Nat.le_trans (pts_length n (n*n)) (Nat.mul_le_mul hn hn)
 obtain⟨f,hf⟩:∃ f,plAll n D L n=f:=⟨_,rfl⟩
 have HEN:=Kh (fun W (hb:Below w.heap.size w W)=>c_enter_ok n wt D W (hT.below hb) h0 hn hwt q3 q4 hck)
 rw[hL,hf]at HEN
 have HCW:=Kh (fun T B W (h:WorldAt W T B n wt L f)=>c_countW T B n wt L f W h hwt hLl)
 obtain⟨CC,hCC⟩:∃ x,cntF n wt=x:=⟨_,rfl⟩
 have hCm:(wt+1)*L.length=CC:=by rw[← hCC,← hL];rfl
 rw[hCm]at HCW
 rw[hCC]
 clear hT hck hL hf hCC hCm q1 q2 q3 q4 q5 q6
 go_enter Tryz.func99,Tryz.ntmps99
 go_wp2_with fail
 obtain⟨w0,hw0,XS,hb0⟩:=bx1 w #[.int .i64 n,.int .i64 ((wt:Int)+2),.int .i64 D] 23
 rw[hw0]
 have HB0:=Kh hb0
 clear hw0 XS hb0
 refine(HEN.out w0 HB0.out).mono ?_
 rintro e w1 ⟨⟨T,rfl,hwa⟩,hb1⟩
 have HWA:=Kh hwa
 have HB1:=bt HB0 hb1
 clear hwa hb1 HB0 HEN
 go_wp2_with fail
 refine(HCW.out T w1.heap.size w1 HWA.out).mono ?_
 rintro e w2 ⟨rfl,nd,hnd⟩
 have HB2:=Kh (show Below w.heap.size w w2 by rw[hnd];exact below_drewN' HB1.out nd)
 clear hnd HB1 HWA
 go_wp2
 go_ret2
 exact⟨rfl,HB2.out⟩
theorem makeRC (n:Nat) (h:n≤1000000) (w:World):
  (Instr.makeSlice 104 (.int .i64 0) (.int .i64 (n:Int))).run Tryz.prog w=.ok (.slice (some ⟨w.heap.size,0,none⟩) 0 n) (w.alloc (.cells (madeCells #[.slice none 0 0] n) 30)):=by
 obtain⟨i,hi,hz0,hz1,hz2⟩:=info_parts rowQInfo
 have hr:=run_make (P:=Tryz.prog) w 104 30 i _ Tryz.underlying104 hi hz0 .i64 .i64 (0:Nat) n (by omega) (by omega) (by rw[hz2];omega) (by omega)
 rw[Int.toNat_natCast,hz1,Nat.mul_one]at hr
 exact hr
theorem RowsOwn.made (F:Nat→Nat→Rat) (C n:Nat) (w:World) (B:Nat) (hB:B≤w.heap.size) (hn:n≤1000000):RowsOwn F 0 C (w.alloc (.cells (madeCells #[.slice none 0 0] n) 30)) B (.slice (some ⟨w.heap.size,0,none⟩) 0 n):=by
 have hb:=Blk.new w 30 (madeCells #[.slice none 0 0] n)
 refine⟨fun _=>0,⟨⟨rfl,.inr ⟨w.heap.size,n,madeCells #[.slice none 0 0] n,rfl,hB,?_,Nat.zero_le _,by simp only[maxLen];omega,by simp[madeCells],rfl⟩⟩,fun g hg=>?_⟩,fun _ hi=>absurd hi (Nat.not_lt_zero _)⟩
 ·exact hb
 ·injection hg with hg
  subst hg
  refine Stk.of hb (fun v hv=>?_)
  have h1:v∈(madeCells #[.slice none 0 0] n).toList:=by simpa using hv
  simp[madeCells]at h1
  obtain⟨k,_,h2⟩:=h1
  rw[Nat.mod_one]at h2
  exact⟨none,0,0,h2.symm⟩
end Go.Proofs.YtenlbhlllgppmaaGreatDoor
