/- Contracts of matrix.reduce, Echelon and Rank. -/
import Derived.Test.YthikonjlgljikaaGreatDoorS32
import Derived.Test.YthikonjlgljikaaGreatDoorS34
set_option linter.unusedSimpArgs false
set_option maxRecDepth 100000
set_option maxHeartbeats 8000000
namespace Go.Proofs.YthikonjlgljikaaGreatDoor
open Go.RowKit Eli
theorem QRow.goes {F:Nat→FP} (hF:∀ j,Solid (F j)) {w w':World} {g N k:Nat} {o:Option Nat} (h:QRow F w g N k) (h32:I32 w w') (hg:w.grownBy w' o) (hne:o≠some g):QRow F w' g N k:=by
 have hn:some g≠o:=fun e=>hne e.symm
 have hbk:w'.heap[g]?=w.heap[g]?:=hg.block g h.sts.1 hn
 refine⟨⟨Nat.lt_of_lt_of_le h.sts.1 hg.size,fun i v hv=>h.sts.2 i v ((World.cell?_of_block (a:=⟨g,i,none⟩) hbk).symm.trans hv)⟩,fun i hi=>(World.frozen?_of_block (a:=⟨g,i,none⟩) hbk).trans (h.free i hi),fun i hi=>?_,fun j hj=>?_⟩
 ·rw[World.cell?_of_block (a:=⟨g,i,none⟩) hbk];exact h.has i hi
 ·obtain⟨s,p,n,c,t,q,m,d,h0,h1,h2,h3,h4⟩:=h.val j hj
  exact⟨s,p,n,c,t,q,m,d,hg.cell h0 hn,hg.cell h1 hn,hg.cell h2 hn,hg.cell h3 hn,hF j _ _ _ _ _ _ _ _ _ _ h32 h4⟩
theorem GM.goes {F:Nat→Nat→Rat} {m C:Nat} {w w':World} {G:Nat} {gs:Nat→Nat} {B:Nat} {o:Option Nat} (h:GM F m C w G gs B) (h32:I32 w w') (hg:w.grownBy w' o) (hG:o≠some G) (hne:∀ i,i<m→o≠some (gs i)):GM F m C w' G gs B:=by
 have hG2:some G≠o:=fun e=>hG e.symm
 have hbk:w'.heap[G]?=w.heap[G]?:=hg.block G h.stk.1 hG2
 exact⟨⟨Nat.lt_of_lt_of_le h.stk.1 hg.size,fun k v hv=>h.stk.2 k v ((World.cell?_of_block (a:=⟨G,k,none⟩) hbk).symm.trans hv)⟩,fun k=>(World.frozen?_of_block (a:=⟨G,k,none⟩) hbk).trans (h.free k),h.hB,fun k hk=>hg.cell (h.at_ k hk) hG2,fun k hk=>(h.row k hk).goes (fun _=>IsQ.solid _) h32 hg (hne k hk),h.ge,h.ne,h.inj⟩
theorem QRow.cell {P:FP} {w:World} {g k:Nat} {s:Bool} {p:Option Addr} {n c:Nat} {t:Bool} {q:Option Addr} {m d:Nat} (X:Blk w g 35 #[.bool s,.slice p n c,.bool t,.slice q m d]) (hk:k≤1) (hP:0<k→P w s p n c t q m d):QRow (fun _=>P) w g 1 k:=by
 refine⟨Sts.of X (by intro v hv;simp at hv;rcases hv with rfl|rfl|rfl|rfl <;> first|exact NotInt.bool _|exact NotInt.slice _ _ _),fun i _=>X.free_ i,fun i hi=>?_,fun j hj=>?_⟩
 ·rcases(by omega:i=0∨i=1∨i=2∨i=3)with rfl|rfl|rfl|rfl
  ·rw[X.at_ 0 rfl];rfl
  ·rw[X.at_ 1 rfl];rfl
  ·rw[X.at_ 2 rfl];rfl
  ·rw[X.at_ 3 rfl];rfl
 ·obtain rfl:j=0:=by omega
  exact⟨s,p,n,c,t,q,m,d,X.at_ 0 rfl,X.at_ 1 rfl,X.at_ 2 rfl,X.at_ 3 rfl,hP hj⟩
structure RW (F:Nat→Nat→Rat) (m C G:Nat) (gs:Nat→Nat) (B g5 gd:Nat) (dt:Rat) (v:Value) (l:List Nat) (w:World):Prop where
 gm:GM F m C w G gs B
 lt:∀ i,i<m→gs i<g5
 ltG:G<g5
 r5:QRow (fun _=>IsQ 0) w g5 1 0
 rd:QRow (fun _=>IsQ dt) w gd 1 1
 lt5:g5<gd
 op:OwnI l w (gd+1) v
section
variable {F:Nat→Nat→Rat} {m C G:Nat} {gs:Nat→Nat} {B g5 gd:Nat} {dt:Rat} {v:Value} {l:List Nat} {w w':World}
theorem RW.keep (h:RW F m C G gs B g5 gd dt v l w) (hb:Below w.heap.size w w'):RW F m C G gs B g5 gd dt v l w':=
 ⟨h.gm.keep hb,h.lt,h.ltG,h.r5.keep (fun _=>IsQ.solid _) hb,h.rd.keep (fun _=>IsQ.solid _) hb,h.lt5,h.op.keep hb⟩
theorem RW.opne (h:RW F m C G gs B g5 gd dt v l w) {R:Nat} (hR:R≤gd):∀ g,v.ownBlock=some g→(some R:Option Nat)≠some g:=fun g e e2=>by
 have:=(h.op.ge e).1
 injection e2 with e2
 omega
theorem RW.row (h:RW F m C G gs B g5 gd dt v l w) {i:Nat} (hi:i<m) {f:Nat→Rat} (hr:QRow (fun q=>IsQ (f q)) w' (gs i) C C) (hg:w.grownBy w' (some (gs i))) (h32:I32 w w'):RW (putR F i f) m C G gs B g5 gd dt v l w':=
 have h1:=h.lt i hi
 have h2:=h.lt5
 ⟨h.gm.put hi hr hg h32,h.lt,h.ltG,h.r5.i32 (fun _=>IsQ.solid _) h32 hg (by omega),h.rd.i32 (fun _=>IsQ.solid _) h32 hg (by omega),h.lt5,OwnK.but h.op hg (h.opne (by omega))⟩
theorem RW.det (h:RW F m C G gs B g5 gd dt v l w) {dt':Rat} {s:Bool} {p:Option Addr} {n c:Nat} {t:Bool} {q:Option Addr} {m' d:Nat} (hq:Qs w s p n c t q m' d dt'):
  RW F m C G gs B g5 gd dt' v l ((((w.setCell ⟨gd,0,none⟩ (.bool s)).setCell ⟨gd,1,none⟩ (.slice p n c)).setCell ⟨gd,2,none⟩ (.bool t)).setCell ⟨gd,3,none⟩ (.slice q m' d)):=by
 have hg:=but_put4 w gd 0 1 2 3 (.bool s) (.slice p n c) (.bool t) (.slice q m' d)
 have h32:=I32.put4 h.rd.sts 0 1 2 3 (.bool s) (.slice p n c) (.bool t) (.slice q m' d) (NotInt.bool _) (NotInt.slice _ _ _) (NotInt.bool _)
 have h1:=h.lt5
 have h2:=h.ltG
 have h3:=QRow.set (F:=fun _=>IsQ dt) (k':=1) (fun _=>IsQ.solid _) h.rd 0 (by omega) (fun _=>IsQ dt') (IsQ.solid _) (fun i h4 h5=>absurd h4 (by omega)) hq
 exact⟨h.gm.but h32 hg (by omega) (fun i hi=>by have:=h.lt i hi;omega),h.lt,h.ltG,h.r5.i32 (fun _=>IsQ.solid _) h32 hg (by omega),h3,h.lt5,OwnK.but h.op hg (h.opne (Nat.le_refl _))⟩
theorem RW.swap (h:RW F m C G gs B g5 gd dt v l w) {a b:Nat} (ha:a<m) (hb:b<m) (hab:a≠b):RW (swp F a b) m C G (swp gs a b) B g5 gd dt v l ((w.setCell ⟨G,a,none⟩ (.slice (some ⟨gs b,0,none⟩) C C)).setCell ⟨G,b,none⟩ (.slice (some ⟨gs a,0,none⟩) C C)):=by
 obtain⟨h1,h32⟩:=h.gm.swap ha hb hab
 have hg:=but_put2 w G a b (.slice (some ⟨gs b,0,none⟩) C C) (.slice (some ⟨gs a,0,none⟩) C C)
 have h2:=h.ltG
 have h3:=h.lt5
 refine⟨h1,fun i hi=>?_,h.ltG,h.r5.i32 (fun _=>IsQ.solid _) h32 hg (by omega),h.rd.i32 (fun _=>IsQ.solid _) h32 hg (by omega),h.lt5,OwnK.but h.op hg (h.opne (by omega))⟩
 unfold swp
 split
 ·exact h.lt b hb
 ·split
  ·exact h.lt a ha
  ·exact h.lt i hi
theorem RW.push (h:RW F m C G gs B g5 gd dt v l w) {v':Value} {l':List Nat} (ho:OwnI l' w' (gd+1) v') (hg:w.grownBy w' v.ownBlock):RW F m C G gs B g5 gd dt v' l' w':=by
 have h32:=I32.grown (K:=IntV) not_iv32 h.op.2 hg
 have hn:∀ {R:Nat},R≤gd→v.ownBlock≠some R:=fun {R} hR e=>by have:=(h.op.ge e).1;omega
 have h1:=h.lt5
 have h2:=h.ltG
 exact⟨h.gm.goes h32 hg (hn (by omega)) (fun i hi=>hn (by have:=h.lt i hi;omega)),h.lt,h.ltG,h.r5.goes (fun _=>IsQ.solid _) h32 hg (hn (by omega)),h.rd.goes (fun _=>IsQ.solid _) h32 hg (hn (by omega)),h.lt5,ho⟩
theorem RW.res (h:RW F m C G gs B g5 gd dt v l w) (v0 v1 v2 v3:Value) (h0:NotInt v0) (h1:NotInt v1) (h2:NotInt v2):
  GM F m C ((((w.setCell ⟨g5,0,none⟩ v0).setCell ⟨g5,1,none⟩ v1).setCell ⟨g5,2,none⟩ v2).setCell ⟨g5,3,none⟩ v3) G gs B∧OwnI l ((((w.setCell ⟨g5,0,none⟩ v0).setCell ⟨g5,1,none⟩ v1).setCell ⟨g5,2,none⟩ v2).setCell ⟨g5,3,none⟩ v3) (gd+1) v:=by
 have hg:=but_put4 w g5 0 1 2 3 v0 v1 v2 v3
 have h32:=I32.put4 h.r5.sts 0 1 2 3 v0 v1 v2 v3 h0 h1 h2
 have h3:=h.lt5
 have h4:=h.ltG
 exact⟨h.gm.but h32 hg (by omega) (fun i hi=>by have:=h.lt i hi;omega),OwnK.but h.op hg (h.opne (by omega))⟩
end
theorem r4_below {B:Nat} {w0 w:World} {g:Nat} (h:Below B w0 w) (_hB:B≤w0.heap.size) (hg:B≤g) (v0 v1 v2 v3:Value):Below B w0 ((((w.setCell ⟨g,0,none⟩ v0).setCell ⟨g,1,none⟩ v1).setCell ⟨g,2,none⟩ v2).setCell ⟨g,3,none⟩ v3):=
 (((h.setCell (p:=⟨g,0,none⟩) hg v0).setCell (p:=⟨g,1,none⟩) hg v1).setCell (p:=⟨g,2,none⟩) hg v2).setCell (p:=⟨g,3,none⟩) hg v3
theorem swp_self {α:Type} (F:Nat→α) (t:Nat):swp F t t=F:=by
 funext i
 unfold swp
 split
 ·rename_i e;rw[e]
 ·rfl
theorem swp_comm {α:Type} (F:Nat→α) (s t:Nat):swp F s t=swp F t s:=by
 funext i
 unfold swp
 split
 ·split
  ·rename_i e1 e2;rw[← e1,e2]
  ·rfl
 ·split <;> rfl
theorem clg_zero (F:Nat→Nat→Rat) (pv:Nat→Rat) (c t:Nat):clg F pv c t 0=F:=by
 funext i
 rw[clg,if_neg (fun h=>absurd h.1 (Nat.not_lt_zero _))]
theorem clg_skip {F:Nat→Nat→Rat} {pv:Nat→Rat} {c t j:Nat} (hj:j=t):clg F pv c t (j+1)=clg F pv c t j:=by
 funext i
 unfold clg
 by_cases h:i<j
 ·rw[if_pos ⟨by omega,by omega⟩,if_pos ⟨h,by omega⟩]
 ·rw[if_neg (by omega),if_neg (by omega)]
theorem clg_put {F:Nat→Nat→Rat} {pv:Nat→Rat} {c t j:Nat} (hj:j≠t):putR (clg F pv c t j) j (clr pv c (F j))=clg F pv c t (j+1):=by
 funext i
 unfold putR clg
 by_cases e:i=j
 ·subst e;rw[if_pos rfl,if_pos ⟨by omega,hj⟩]
 ·rw[if_neg e]
  by_cases h:i<j∧i≠t
  ·rw[if_pos h,if_pos ⟨by omega,h.2⟩]
  ·rw[if_neg h,if_neg (by omega)]
theorem clg_none {F:Nat→Nat→Rat} {pv:Nat→Rat} {c t j:Nat} (h0:F j c=0):clg F pv c t (j+1)=clg F pv c t j:=by
 funext i
 unfold clg
 by_cases e:i=j
 ·subst e
  rw[if_neg (show ¬ (i<i∧i≠t)by omega)]
  split
  ·funext q;rw[clr,h0];grind
  ·rfl
 ·by_cases h:i<j∧i≠t
  ·rw[if_pos h,if_pos ⟨by omega,h.2⟩]
  ·rw[if_neg h,if_neg (by omega)]
def MRed (rows:Nat→Nat→Int) (m C G B:Nat) (w w':World) (e:Ending):Prop:=∃ (p:Option Addr) (cp gd:Nat) (dv:Value) (c t:Nat) (F:Nat→Nat→Rat) (gs:Nat→Nat) (ld:Nat→Bool) (L:Nat→Nat→Rat) (R:Nat→Nat→Int) (O:Nat→Nat→Rat),
 e=.returned (.tuple #[.slice p t cp,dv])∧GridAt C 16777216 rows m c t F ld L R O∧(c=C∨t=m)∧GM F m C w' G gs B∧OwnI (pvs ld c) w' (gd+1) (.slice p t cp)∧Below B w w'
theorem c_mreduce (rows:Nat→Nat→Int) (F:Nat→Nat→Rat) (m C G B:Nat) (gs:Nat→Nat) (w:World) (hF:∀ i q,F i q=(rows i q:Rat)) (hb:∀ i q,(rows i q).natAbs≤16777216) (h0:∀ i q,C≤q→rows i q=0) (h:GM F m C w G gs B) (hB:B≤w.heap.size) (hm:m≤1000) (hC:C≤72):
  Calls Tryz.prog 133 #[.slice (some ⟨G,0,none⟩) m m,.int .i64 C] w fun e w'=>MRed rows m C G B w w' e:=by
 have HB:=Kh hb
 have H0:=Kh h0
 have HG0:=Kh h
 have HST:=Kh (GridAt.start (n:=C) (m:=m) (show 1≤16777216 by omega) hF)
 have HBS:=Kh hB
 have HTOP:=Kh (top_72 (n:=C) (B:=16777216) hC (Nat.le_refl _))
 have HLT:=Kh (show ∀ i,i<m→gs i<w.heap.size from fun i hi=>(h.row i hi).sts.1)
 clear hF hb h0 h hB
 go_enter Tryz.func133,Tryz.ntmps133
 go_wp2_with fail
 obtain⟨w0,hw0,X0,hb0⟩:=bx1 w #[.bool false,.slice none 0 0,.bool false,.slice none 0 0] 35
 rw[hw0]
 refine(c_qOf 1 w0 (by omega) (by omega)).mono ?_
 rintro e w1 ⟨⟨s9,p9,n9,c9,t9,q9,m9,d9,rfl,hq9⟩,hb1⟩
 go_wp2_with fail
 obtain⟨w2,hw2⟩:∃ w2,w1.alloc (.cells #[.bool s9,.slice p9 n9 c9,.bool t9,.slice q9 m9 d9] 35)=w2:=⟨_,rfl⟩
 have hb2:Below w1.heap.size w1 w2:=hw2▸(Below.refl _ _).alloc (Nat.le_refl _) _
 have X2:Blk w2 w1.heap.size 35 #[.bool s9,.slice p9 n9 c9,.bool t9,.slice q9 m9 d9]:=hw2▸Blk.new w1 35 #[.bool s9,.slice p9 n9 c9,.bool t9,.slice q9 m9 d9]
 rw[hw2]
 have hsz1:w.heap.size<w1.heap.size:=Nat.lt_of_lt_of_le X0.lt hb1.size
 have hbw:Below w.heap.size w w2:=hb0.trans ((hb1.trans (hb2.mono hb1.size)).mono hb0.size)
 have X5:=(X0.below_ hb1 X0.lt).below_ hb2 hsz1
 obtain⟨g5,hg5⟩:∃ x,w.heap.size=x:=⟨_,rfl⟩
 obtain⟨gd,hgd⟩:∃ x,w1.heap.size=x:=⟨_,rfl⟩
 have HR0:=Kh (show RW F m C G gs B g5 gd 1 (.slice none 0 0) [] w2 from
  ⟨HG0.out.keep hbw,fun i hi=>hg5▸HLT.out i hi,hg5▸HG0.out.stk.1,hg5▸QRow.cell X5 (by omega) (fun h=>absurd h (Nat.lt_irrefl _)),hgd▸QRow.cell X2 (by omega) (fun _=>by have h:=hq9.keep hb2;exact h),by omega,OwnI.nil _ _⟩)
 have HBW0:=Kh (show Below B w w2 from hbw.mono HBS.out)
 have HG5:=Kh (show B≤g5 from hg5▸HBS.out)
 have HGD:=Kh (show B≤gd by have:=HBS.out;omega)
 have HG5E:=Kh hg5
 rw[hgd]
 try rw[hg5]
 clear hw0 X0 hb0 hb1 hq9 hw2 hb2 X2 hsz1 hbw X5 hg5 hgd HG0
 go_loopw [6,8] (fun vp vc wr=>∃ (c t:Nat) (F':Nat→Nat→Rat) (gs':Nat→Nat) (ld:Nat→Bool) (L:Nat→Nat→Rat) (R:Nat→Nat→Int) (O:Nat→Nat→Rat) (dt:Rat),vc=.int .i64 c∧GridAt C 16777216 rows m c t F' ld L R O∧RW F' m C G gs' B g5 gd dt vp (pvs ld c) wr∧hq dt≤1+100*c∧Below B w wr) (fun _ vc _=>C - (intOf vc).toNat)
 case atStart=>exact⟨0,0,F,gs,_,_,_,_,1,rfl,HST.out,HR0.out,by rw[hq_one];omega,HBW0.out⟩
 case round=>
  obtain⟨c,t,F',gs',ld,L,R,O,dt,rfl,hga,hrw,hdt,hbw⟩:=hrel
  obtain⟨we,rfl⟩:∃ we:World,we=wr:=⟨_,rfl⟩
  have HGA:=Kh hga
  have HBW:=Kh hbw
  have htm':t≤m:=hga.le
  have hcn:c≤C:=hga.gj.le
  obtain⟨pp,cp,evp⟩:=hrw.op.val
  rw[hga.len]at evp
  subst evp
  clear hga hbw HR0 HST HBW0
  by_cases hc:c<C
  ·have hci:(c:Int)<(C:Int):=by omega
   by_cases ht:t<m
   ·have hti:(t:Int)<(m:Int):=by omega
    have HRW:=Kh hrw
    have HSZ:=Kh (show ∀ i q,i<m→hq (F' i q)≤80 from fun i q hi=>Nat.le_trans (HGA.out.size (by omega) HB.out H0.out hi q) HTOP.out)
    have HDT:=Kh hdt
    clear hrw hdt
    go_wp2_with fail
    go_loopw [10] (fun vs wr=>∃ s:Nat,t≤s∧s≤m∧vs=.int .i64 s∧(∀ i,t≤i→i<s→F' i c=0)∧Below we.heap.size we wr) (fun vs _=>m - (intOf vs).toNat)
    case atStart=>exact⟨t,Nat.le_refl _,htm',rfl,fun i h1 h2=>absurd h2 (by omega),Below.refl _ _⟩
    case round=>
     obtain⟨s,hts,hsm,rfl,hz,hbt⟩:=hrel
     obtain⟨wt,rfl⟩:∃ wt:World,wt=wr:=⟨_,rfl⟩
     have HZ:=Kh hz
     have HBT:=Kh hbt
     have HWT:=Kh (HRW.out.keep hbt)
     clear hz hbt
     by_cases hs:s<m
     ·have hsi:(s:Int)<(m:Int):=by omega
      have hse:((s:Int)==(m:Int))=false:=by rw[beq_eq_false_iff_ne];omega
      obtain⟨s5,p5,n5,c5,t5,q5,m5,d5,a0,a1,a2,a3,hx⟩:=HWT.out.gm.elem hs hc
      have g0:=HWT.out.gm.at_ s hs
      have HP:=Kh (show Qs wt s5 p5 n5 c5 t5 q5 m5 d5 (F' s c)from hx)
      clear hx
      go_wp2_with fail
      refine(c_nonzero s5 p5 n5 c5 t5 q5 m5 d5 (F' s c) wt HP.out (by have:=HSZ.out s c hs;omega)).mono ?_
      rintro e wu ⟨rfl,hbu⟩
      have HBU:=bt HBT hbu
      clear a0 a1 a2 a3 g0 hbu
      by_cases hx0:F' s c=0
      ·have hd:(!decide (F' s c=0))=false:=by rw[decide_eq_true hx0];rfl
       rw[hd]
       have HX0:=Kh hx0
       clear hx0 hd
       go_wp2
       go_roundw
       case rel=>exact⟨s+1,by omega,by omega,by go_num,fun i h1 h2=>by
        by_cases e:i=s
        ·rw[e];exact HX0.out
        ·exact HZ.out i h1 (by omega),HBU.out⟩
       case measure=>simp[intOf];omega
      ·have hd:(!decide (F' s c=0))=true:=by rw[decide_eq_false hx0];rfl
       rw[hd]
       have HX0:=Kh hx0
       have HWU:=Kh (HRW.out.keep HBU.out)
       have HBWU:=Kh (HBW.out.trans (HBU.out.mono (by have:=HBW.out.size;have:=HBS.out;omega)))
       clear hd hx0 HWT HBT HP HZ HRW
       go_upto_if 52 with(fail)
       go_cut []from 50 to 68 (fun wd=>∃ dt',RW (swp F' t s) m C G (swp gs' t s) B g5 gd dt' (.slice pp t cp) (pvs ld c) wd∧hq dt'≤1+100*c∧Below B w wd)
       case first=>
        by_cases hst:s=t
        ·have HE:=Kh hst
         have hne:((s:Int) !=(t:Int))=false:=by rw[bne_eq_false_iff_eq];omega
         clear hst
         go_wp2
         go_meet
         exact⟨dt,by rw[HE.out,swp_self,swp_self];exact HWU.out,HDT.out,HBWU.out⟩
        ·have hne:((s:Int) !=(t:Int))=true:=by rw[bne_iff_ne];omega
         have HNE:=Kh hst
         have g0:=HWU.out.gm.at_ s hs
         have g1:=HWU.out.gm.at_ t ht
         have f0:=HWU.out.gm.free s
         have f1:=HWU.out.gm.free t
         obtain⟨s4,p4,n4,c4,t4,q4,m4,d4,b0,b1,b2,b3,hdq⟩:=HWU.out.rd.val 0 (by omega)
         rw[Nat.zero_mul]at b0 b1 b2 b3
         have HSW:=Kh (HWU.out.swap hs ht hst)
         have hts2:¬ t=s:=fun e=>hst e.symm
         have l1:(wu.setCell ⟨G,s,none⟩ (.slice (some ⟨gs' t,0,none⟩) C C)).cell? ⟨G,t,none⟩=some (.slice (some ⟨gs' t,0,none⟩) C C):=by rw[World.cell?_setCell_other _ _ _ _ (by simp <;> omega)];exact g1
         have l2:(wu.setCell ⟨G,s,none⟩ (.slice (some ⟨gs' t,0,none⟩) C C)).frozen? ⟨G,t,none⟩=false:=frozen_set f1
         have hGd:G≠gd:=by have:=HWU.out.ltG;have:=HWU.out.lt5;omega
         have hdf:=HWU.out.rd.free
         have h30:=hdf 0 (by omega)
         have h31:=hdf 1 (by omega)
         have h32:=hdf 2 (by omega)
         have h33:=hdf 3 (by omega)
         have HBG:=Kh (show B≤G from HWU.out.gm.hB)
         clear hdf hdq
         go_upto_region 11 with(fail)
         go_region
         obtain⟨wv,hwv⟩:∃ wv,((wu.setCell ⟨G,s,none⟩ (.slice (some ⟨gs' t,0,none⟩) C C)).setCell ⟨G,t,none⟩ (.slice (some ⟨gs' s,0,none⟩) C C)).drew=wv:=⟨_,rfl⟩
         have hsw:=hwv▸HSW.out.keep (Below.refl _ _).drew
         rw[hwv]
         have HBV:=Kh (show Below B w wv from hwv▸((HBWU.out.setCell (p:=⟨G,s,none⟩) HBG.out _).setCell (p:=⟨G,t,none⟩) HBG.out _).drew)
         have HSV:=Kh hsw
         obtain⟨s3,p3,n3,c3,t3,q3,m3,d3,y0,y1,y2,y3,hdq⟩:=hsw.rd.val 0 (by omega)
         simp only[Nat.zero_mul,Nat.zero_add]at y0 y1 y2 y3
         have HDQ:=Kh (show Qs wv s3 p3 n3 c3 t3 q3 m3 d3 dt from hdq)
         have k0:=hsw.rd.free 0 (by omega)
         have k1:=hsw.rd.free 1 (by omega)
         have k2:=hsw.rd.free 2 (by omega)
         have k3:=hsw.rd.free 3 (by omega)
         clear hwv hsw hdq b0 b1 b2 b3 g0 g1 f0 f1 h30 h31 h32 h33 HSW l1 l2 hst hts2
         go_wp2_with fail
         refine(c_qNegQ s3 p3 n3 c3 t3 q3 m3 d3 dt wv HDQ.out (by have:=HDT.out;omega)).mono ?_
         rintro e w6 ⟨⟨s6,p6,n6,c6,t6,q6,m6,d6,rfl,hz6⟩,hb6⟩
         have HFD:=Kh ((HSV.out.keep hb6).det hz6)
         have HB6:=Kh (r4_below (HBV.out.trans (hb6.mono (by have:=HBV.out.size;have:=HBS.out;omega))) HBS.out HGD.out (.bool s6) (.slice p6 n6 c6) (.bool t6) (.slice q6 m6 d6))
         have y0:=cell_next hb6 y0
         have y1:=cell_next hb6 y1
         have y2:=cell_next hb6 y2
         have y3:=cell_next hb6 y3
         have k0:=frozen_keep hb6 (by rw[‹wv.cell? ⟨gd,0,none⟩=_›];rfl) k0
         have k1:=frozen_keep hb6 (by rw[‹wv.cell? ⟨gd,1,none⟩=_›];rfl) k1
         have k2:=frozen_keep hb6 (by rw[‹wv.cell? ⟨gd,2,none⟩=_›];rfl) k2
         have k3:=frozen_keep hb6 (by rw[‹wv.cell? ⟨gd,3,none⟩=_›];rfl) k3
         clear hz6 hb6
         go_wp2
         go_meet
         exact⟨-dt,by rw[swp_comm F' t s,swp_comm gs' t s];exact HFD.out,by rw[hq_neg];exact HDT.out,HB6.out⟩
       case rest=>
        obtain⟨dt1,hrw,hdt,hbd⟩:=hcut
        obtain⟨wd,rfl⟩:∃ wd:World,wd=wc:=⟨_,rfl⟩
        obtain⟨F1,hF1⟩:∃ F1,swp F' t s=F1:=⟨_,rfl⟩
        obtain⟨gs1,hgs1⟩:∃ gs1,swp gs' t s=gs1:=⟨_,rfl⟩
        obtain⟨ld',L',R',O',hga',hpv'⟩:=HGA.out.pivot HB.out hc hts hs HX0.out
        rw[hF1]at hrw hga'
        rw[hgs1]at hrw
        have e1:F1 t=F' s:=by rw[← hF1,swp,if_pos rfl]
        rw[← e1]at hga'
        have HGA':=Kh hga'
        have HPV':=Kh hpv'
        have HSZ1:=Kh (show ∀ i q,i<m→hq (F1 i q)≤80 from fun i q hi=>by
         rw[← hF1]
         unfold swp
         split
         ·exact HSZ.out s q hs
         ·split
          ·exact HSZ.out t q ht
          ·exact HSZ.out i q hi)
        have HX1:=Kh (show F1 t c≠0 by rw[e1];exact HX0.out)
        have HZ1:=Kh (show ∀ q,q<c→F1 t q=0 from fun q hq=>by rw[e1];exact HGA.out.zero hts hs q hq)
        have HPS:=Kh (show ∀ q,hq (pvt (F1 t) c q)≤80 from fun q=>by rw[e1];exact Nat.le_trans (HGA.out.psize HB.out hts hs HX0.out q) HTOP.out)
        have HRW:=Kh hrw
        have HBD:=Kh (show Below B w wd from hbd)
        have HDT1:=Kh hdt
        have htm:t<m:=ht
        have HPL:=Kh HGA.out.len
        clear hrw hdt hbd hF1 hgs1 hga' hpv' e1 HWU HBWU HSZ HX0 HBU HDT HBW HGA
        obtain⟨s5,p5,n5,c5,t5,q5,m5,d5,a0,a1,a2,a3,hx⟩:=HRW.out.gm.elem ht hc
        have g0:=HRW.out.gm.at_ t ht
        have HP:=Kh (show Qs wd s5 p5 n5 c5 t5 q5 m5 d5 (F1 t c)from hx)
        have hrd:=HRW.out.rd
        obtain⟨s4,p4,n4,c4,t4,q4,m4,d4,b0,b1,b2,b3,hdq⟩:=hrd.val 0 (by omega)
        rw[Nat.zero_mul]at b0 b1 b2 b3
        have HDQ:=Kh (show Qs wd s4 p4 n4 c4 t4 q4 m4 d4 dt1 from hdq)
        have HM1:=Kh (fun w1 (hb:Below wd.heap.size wd w1)=>c_qMulQ s4 p4 n4 c4 t4 q4 m4 d4 dt1 s5 p5 n5 c5 t5 q5 m5 d5 (F1 t c) w1 (HDQ.out.keep hb) (HP.out.keep hb) (by have:=HDT1.out;omega) (by have:=HSZ1.out t c ht;omega))
        clear hx hdq
        go_upto_region 13 with(fail)
        refine rgB (fun W=>W.cell? ⟨G,t,none⟩=some (.slice (some ⟨gs1 t,0,none⟩) C C)∧W.cell? ⟨gs1 t,c*4,none⟩=some (.bool s5)∧W.cell? ⟨gs1 t,c*4+1,none⟩=some (.slice p5 n5 c5)∧W.cell? ⟨gs1 t,c*4+2,none⟩=some (.bool t5)∧W.cell? ⟨gs1 t,c*4+3,none⟩=some (.slice q5 m5 d5)∧W.cell? ⟨gd,0,none⟩=some (.bool s4)∧W.frozen? ⟨gd,0,none⟩=false∧W.cell? ⟨gd,1,none⟩=some (.slice p4 n4 c4)∧W.frozen? ⟨gd,1,none⟩=false∧W.cell? ⟨gd,2,none⟩=some (.bool t4)∧W.frozen? ⟨gd,2,none⟩=false∧W.cell? ⟨gd,3,none⟩=some (.slice q4 m4 d4)∧W.frozen? ⟨gd,3,none⟩=false) (fun W hb=>⟨cnx hb g0,cnx hb a0,cnx hb a1,cnx hb a2,cnx hb a3,cnx hb b0,frozen_keep hb (by rw[b0];rfl) (hrd.free 0 (by omega)),cnx hb b1,frozen_keep hb (by rw[b1];rfl) (hrd.free 1 (by omega)),cnx hb b2,frozen_keep hb (by rw[b2];rfl) (hrd.free 2 (by omega)),cnx hb b3,frozen_keep hb (by rw[b3];rfl) (hrd.free 3 (by omega))⟩) (fun HSE hHeld0=>?_)
        clear g0 a0 a1 a2 a3 b0 b1 b2 b3 hrd
        refine tkE 0 ?_;refine tkE 1 ?_;refine tkE 2 ?_;refine tkE 3 ?_;refine tkE 4 ?_;refine tkE 5 ?_;refine tkE 6 ?_;refine tkE 7 ?_
        refine stE 8 rfl (fun K hK=>?_)
        focus(go_simp;refine(HM1.out _ (Below.refl _ wd).drew).mono ?_;rintro e w6 ⟨⟨s6,p6,n6,c6,t6,q6,m6,d6,rfl,hz6⟩,hb6⟩;have HB6:=Kh ((Below.refl _ wd).drew.trans hb6:Below wd.heap.size wd w6);have HW6:=Kh ((HRW.out.keep HB6.out).det hz6);have HL6:=Kh (r4_below (HBD.out.trans (HB6.out.mono (Nat.le_trans HBS.out HBD.out.size))) (show B≤w.heap.size from HBS.out) HGD.out (.bool s6) (.slice p6 n6 c6) (.bool t6) (.slice q6 m6 d6));clear hz6 hb6;(first|with_reducible refine hK.out _ _ ?_ (fun hHeld1=>?_) |(go_wp2_with fail;with_reducible refine hK.out _ _ ?_ (fun hHeld1=>?_))))
        focus((try dsimp only);exact HSE.out _ HB6.out)
        focus(clear hK K;(try simp only[Act.put,lsa,lsz,lss]))
        refine laE 9 rfl (fun K hK=>?_)
        go_simp
        refine hK.out _ _ ?_
        clear hK K
        (try simp only[Act.put,lsa,lsz,lss])
        have HDT2:=Kh (show hq (dt1*F1 t c)≤1+100*(c+1)by
         have h1:=hq_mul dt1 (F1 t c)
         have h2:=HDT1.out
         have h3:=HSZ1.out t c ht
         omega)
        obtain⟨dt2,hdt2⟩:∃ x,dt1*F1 t c=x:=⟨_,rfl⟩
        rw[hdt2]at HDT2 HW6
        obtain⟨we,hwe⟩:∃ we,((((w6.setCell ⟨gd,0,none⟩ (.bool s6)).setCell ⟨gd,1,none⟩ (.slice p6 n6 c6)).setCell ⟨gd,2,none⟩ (.bool t6)).setCell ⟨gd,3,none⟩ (.slice q6 m6 d6))=we:=⟨_,rfl⟩
        rw[hwe]at HW6 HL6 ⊢
        have HRW:=Kh HW6.out
        have HBE:=Kh HL6.out
        clear hdt2 hwe HW6 HL6 HSE HM1 HDQ HP HB6 hHeld0 hHeld1
        obtain⟨s5,p5,n5,c5,t5,q5,m5,d5,a0,a1,a2,a3,hx⟩:=HRW.out.gm.elem ht hc
        have g0:=HRW.out.gm.at_ t ht
        have HP:=Kh (show Qs we s5 p5 n5 c5 t5 q5 m5 d5 (F1 t c)from hx)
        have HDV:=Kh (fun w1 (hb:Below we.heap.size we w1)=>c_mdivide (gs1 t) C C c (F1 t) s5 p5 n5 c5 t5 q5 m5 d5 (F1 t c) w1 ((HRW.out.gm.row t ht).keep (fun _=>IsQ.solid _) hb) (HP.out.keep hb) HX1.out (by have:=HSZ1.out t c ht;omega) (fun j _=>by have:=HSZ1.out t j ht;omega) (by omega) hcn HZ1.out)
        clear hx
        go_upto_region 14 with(fail)
        refine rgB (fun W=>W.cell? ⟨G,t,none⟩=some (.slice (some ⟨gs1 t,0,none⟩) C C)∧W.cell? ⟨gs1 t,c*4,none⟩=some (.bool s5)∧W.cell? ⟨gs1 t,c*4+1,none⟩=some (.slice p5 n5 c5)∧W.cell? ⟨gs1 t,c*4+2,none⟩=some (.bool t5)∧W.cell? ⟨gs1 t,c*4+3,none⟩=some (.slice q5 m5 d5)) (fun W hb=>⟨cnx hb g0,cnx hb a0,cnx hb a1,cnx hb a2,cnx hb a3⟩) (fun HSE hHeld0=>?_)
        clear g0 a0 a1 a2 a3
        refine tkE 0 ?_;refine tkE 1 ?_;refine tkE 2 ?_;refine tkE 3 ?_;refine tkE 4 ?_;refine tkE 5 ?_;refine tkE 6 ?_;refine tkE 7 ?_;refine tkE 8 ?_;refine tkE 9 ?_;refine tkE 10 ?_;refine tkE 11 ?_
        refine laE 12 rfl (fun K hK=>?_)
        focus(go_simp;refine(HDV.out _ (Below.refl _ we).drew).mono ?_;rintro e wf ⟨⟨v,rfl⟩,hrow,hgr,h32⟩;have HW7:=Kh ((HRW.out.keep (Below.refl _ we).drew).row htm hrow hgr h32);have HL7:=Kh (below_but HBE.out.drew hgr (Nat.le_trans HBS.out HBE.out.size) (HRW.out.gm.ge t htm));clear hrow hgr h32;(first|with_reducible refine hK.out _ _ ?_ |(go_wp2_with fail;with_reducible refine hK.out _ _ ?_)))
        clear hK K
        (try simp only[Act.put,lsa,lsz,lss])
        obtain⟨pv,hpv⟩:∃ pv,pvt (F1 t) c=pv:=⟨_,rfl⟩
        obtain⟨F2,hF2⟩:∃ F2,putR F1 t pv=F2:=⟨_,rfl⟩
        rw[hpv]at HGA' HPS
        rw[hF2]at HGA'
        have HRWF:=Kh (show RW F2 m C G gs1 B g5 gd dt2 (.slice pp t cp) (pvs ld c) wf from by rw[← hF2,← hpv];exact HW7.out)
        have HF2:=Kh (show ∀ i,i≠t→F2 i=F1 i from fun i hi=>by rw[← hF2,putR,if_neg hi])
        have HF2T:=Kh (show F2 t=pv from by rw[← hF2,putR,if_pos rfl])
        have HPZ:=Kh (show ∀ q,q<c→pv q=0 from fun q hq=>by rw[← hpv,pvt,HZ1.out q hq,Rat.mul_zero])
        have HBF:=Kh HL7.out
        clear hpv hF2 HW7 HL7 HSE HDV HP HRW HX1 HZ1 hHeld0
        go_wp2_with fail
        go_loopw [93] (fun vj wr=>∃ j:Nat,j≤m∧vj=.int .i64 j∧RW (clg F2 pv c t j) m C G gs1 B g5 gd dt2 (.slice pp t cp) (pvs ld c) wr∧Below B w wr) (fun vj _=>m - (intOf vj).toNat)
        case atStart=>exact⟨0,Nat.zero_le _,rfl,by rw[clg_zero];exact HRWF.out,HBF.out⟩
        case round=>
         obtain⟨j,hj,rfl,hrw,hbj⟩:=hrel
         obtain⟨wj,rfl⟩:∃ wj:World,wj=wr:=⟨_,rfl⟩
         have HRW:=Kh hrw
         have HBJ:=Kh hbj
         clear hrw hbj HRWF HBF
         by_cases hjm:j<m
         ·have hji:(j:Int)<(m:Int):=by omega
          by_cases hjt:j=t
          ·have hne:((j:Int) !=(t:Int))=false:=by rw[bne_eq_false_iff_eq];omega
           have HE:=Kh hjt
           clear hjt
           go_wp2
           go_roundw
           case rel=>exact⟨j+1,by omega,by go_num,by rw[clg_skip HE.out];exact HRW.out,HBJ.out⟩
           case measure=>simp[intOf];omega
          ·have hne:((j:Int) !=(t:Int))=true:=by rw[bne_iff_ne];omega
           have HJT:=Kh hjt
           have ecj:clg F2 pv c t j j=F2 j:=by rw[clg,if_neg (by omega)]
           have HCJ:=Kh ecj
           obtain⟨s5,p5,n5,c5,t5,q5,m5,d5,a0,a1,a2,a3,hx⟩:=HRW.out.gm.elem hjm hc
           rw[ecj]at hx
           have g1:=HRW.out.gm.at_ j hjm
           have HP:=Kh (show Qs wj s5 p5 n5 c5 t5 q5 m5 d5 (F2 j c)from hx)
           have HZJ:=Kh (show ∀ q,hq (F2 j q)≤80 from fun q=>by rw[HF2.out j hjt];exact HSZ1.out j q hjm)
           clear hx ecj hjt
           go_wp2_with fail
           refine(c_nonzero s5 p5 n5 c5 t5 q5 m5 d5 (F2 j c) wj HP.out (by have:=HZJ.out c;omega)).mono ?_
           rintro e wu ⟨rfl,hbu⟩
           have HWU:=Kh (HRW.out.keep hbu)
           have hszj:B≤wj.heap.size:=by have:=HBJ.out.size;have:=HBS.out;omega
           have HBU:=Kh (HBJ.out.trans (hbu.mono hszj))
           have a0:=cell_next hbu a0
           have a1:=cell_next hbu a1
           have a2:=cell_next hbu a2
           have a3:=cell_next hbu a3
           have HPU:=Kh (HP.out.keep hbu)
           clear hbu g1 hszj HP
           by_cases hx0:F2 j c=0
           ·have hd:(!decide (F2 j c=0))=false:=by rw[decide_eq_true hx0];rfl
            rw[hd]
            have HX0:=Kh hx0
            clear hx0 hd a0 a1 a2 a3
            go_wp2
            go_roundw
            case rel=>exact⟨j+1,by omega,by go_num,by rw[clg_none HX0.out];exact HWU.out,HBU.out⟩
            case measure=>simp[intOf];omega
           ·have hd:(!decide (F2 j c=0))=true:=by rw[decide_eq_false hx0];rfl
            rw[hd]
            have g1:=HWU.out.gm.at_ j hjm
            have g0:=HWU.out.gm.at_ t ht
            have HNG:=Kh (fun w1 (hb:Below wu.heap.size wu w1)=>c_qNegQ s5 p5 n5 c5 t5 q5 m5 d5 (F2 j c) w1 (HPU.out.keep hb) (by have:=HZJ.out c;omega))
            have HCO:=Kh (fun s6 p6 n6 c6 t6 q6 m6 d6 w1 (hb:Below wu.heap.size wu w1) (hq6:Qs w1 s6 p6 n6 c6 t6 q6 m6 d6 (-(F2 j c)))=>by
             have hk:=HWU.out.gm.keep hb
             have hct:clg F2 pv c t j t=pv:=by rw[clg,if_neg (by omega),HF2T.out]
             have h:=c_combine (gs1 j) C C (gs1 t) 0 C c (clg F2 pv c t j j) (clg F2 pv c t j t) s6 p6 n6 c6 t6 q6 m6 d6 (-(F2 j c)) w1 (hk.row j hjm) (fun e=>HJT.out (hk.inj t j ht hjm e).symm) (hk.row t ht).sts.1 (fun q hq=>by rw[Nat.zero_add];exact(hk.row t ht).val q hq) hq6 (by rw[hq_neg];have:=HZJ.out c;omega)
              (fun q _=>by rw[HCJ.out,hct];have:=HZJ.out q;have:=HPS.out q;omega) (by omega) hcn (fun q hq=>by rw[hct];exact HPZ.out q hq)
             rw[HCJ.out,hct]at h
             exact h)
            have hcl:w.heap.size≤wu.heap.size:=HBU.out.size
            clear hd hx0
            go_upto_region 19 with(fail)
            refine rgB (fun W=>W.cell? ⟨G,j,none⟩=some (.slice (some ⟨gs1 j,0,none⟩) C C)∧W.cell? ⟨G,t,none⟩=some (.slice (some ⟨gs1 t,0,none⟩) C C)∧W.cell? ⟨gs1 j,c*4,none⟩=some (.bool s5)∧W.cell? ⟨gs1 j,c*4+1,none⟩=some (.slice p5 n5 c5)∧W.cell? ⟨gs1 j,c*4+2,none⟩=some (.bool t5)∧W.cell? ⟨gs1 j,c*4+3,none⟩=some (.slice q5 m5 d5)) (fun W hb=>⟨cnx hb g1,cnx hb g0,cnx hb a0,cnx hb a1,cnx hb a2,cnx hb a3⟩) (fun HSE hHeld0=>?_)
            clear g0 g1 a0 a1 a2 a3
            refine tkE 0 ?_;refine tkE 1 ?_;refine tkE 2 ?_;refine tkE 3 ?_;refine tkE 4 ?_;refine tkE 5 ?_;refine tkE 6 ?_;refine tkE 7 ?_;refine tkE 8 ?_;refine tkE 9 ?_;refine tkE 10 ?_;refine tkE 11 ?_;refine tkE 12 ?_;refine tkE 13 ?_;refine tkE 14 ?_;refine tkE 16 ?_
            refine stE 15 rfl (fun K hK=>?_)
            focus(go_simp;refine(HNG.out _ (Below.refl _ wu).drew).mono ?_;rintro e w6 ⟨⟨s6,p6,n6,c6,t6,q6,m6,d6,rfl,hz6⟩,hb6⟩;have HB6:=Kh ((Below.refl _ wu).drew.trans hb6:Below wu.heap.size wu w6);have HZ6:=Kh hz6;clear hz6 hb6;(first|with_reducible refine hK.out _ _ ?_ (fun hHeld1=>?_) |(go_wp2_with fail;with_reducible refine hK.out _ _ ?_ (fun hHeld1=>?_))))
            focus((try dsimp only);exact HSE.out _ HB6.out)
            focus(clear hK K;(try simp only[Act.put,lsa,lsz,lss]))
            refine laE 17 rfl (fun K hK=>?_)
            focus(go_simp;refine(HCO.out _ _ _ _ _ _ _ _ _ HB6.out HZ6.out).mono ?_;rintro e wf ⟨⟨v,rfl⟩,hrow,hgr,h32⟩;have HW7:=Kh ((HWU.out.keep HB6.out).row hjm hrow hgr h32);have HL7:=Kh (below_but (HBU.out.trans (HB6.out.mono (Nat.le_trans HBS.out HBU.out.size))) hgr (Nat.le_trans (Nat.le_trans HBS.out HBU.out.size) HB6.out.size) (HWU.out.gm.ge j hjm));clear hrow hgr h32;(first|with_reducible refine hK.out _ _ ?_ |(go_wp2_with fail;with_reducible refine hK.out _ _ ?_)))
            clear hK K
            (try simp only[Act.put,lsa,lsz,lss])
            all_goals go_wp2
            all_goals go_roundw
            all_goals first
             | exact⟨j+1,by omega,by go_num,by rw[← clg_put HJT.out];exact HW7.out,HL7.out⟩
             |(simp[intOf];omega)
         ·obtain rfl:m=j:=by omega
          have hpl:=HPL.out
          have HOP:=Kh (show OwnK IntV wj (gd+1) 3 1 (.slice pp t cp) t ((pvs ld c).map fun n:Nat=>Value.int .i64 (n:Int))from by
           have h:=HRW.out.op
           unfold OwnI at h
           rw[hpl]at h
           exact h)
          have hs2:gd+1≤wj.heap.size:=HRW.out.rd.sts.1
          clear hpl
          go_wp2_with (at_builtin;refine wpl_app2 IntV rfl (.tmp 128) (.tmp 130) _ 3 rfl Tryz.underlying49 intInfo rfl (by decide) (gd+1) t (.slice pp t cp) ((pvs ld c).map fun n:Nat=>Value.int .i64 (n:Int)) [.int .i64 (c:Int)] rfl HOP.out rfl rfl (ione1 _) (by omega) (by omega) hs2 (iv1 _) ivz ?_;intro v3 w3 hown3 hgr3 hat3;have HO3:=Kh (show OwnI (pvs ld c++[c]) w3 (gd+1) v3 from OwnI.push (l:=pvs ld c) (by rw[HPL.out];exact hown3));have HW3:=Kh (HRW.out.push HO3.out hgr3);have HB3:=Kh (own_below HBJ.out HOP.out.1 hgr3 (by have:=HGD.out;omega) (Nat.le_trans HBS.out HBJ.out.size));clear hown3 hgr3 hat3)
          go_roundw
          case rel=>exact⟨c+1,t+1,_,gs1,ld',L',R',O',dt2,by go_num,HGA'.out,by rw[HPV'.out];exact HW3.out,HDT2.out,HB3.out⟩
          case measure=>simp[intOf];omega
     ·obtain rfl:s=m:=by omega
      have hsi:¬ ((s:Int)<(s:Int)):=by omega
      have hse:((s:Int)==(s:Int))=true:=by simp
      have HGS:=Kh (HGA.out.skip hc HZ.out)
      have HPS:=Kh (show pvs ld (c+1)=pvs ld c by rw[pvs_succ,if_neg (fun h=>by have:=HGA.out.gj.lt c h;omega)])
      have HBX:=Kh (HBW.out.trans (HBT.out.mono (by have:=HBW.out.size;have:=HBS.out;omega)))
      go_wp2
      go_roundw
      case rel=>exact⟨c+1,t,F',gs',ld,L,R,O,dt,by go_num,HGS.out,by rw[HPS.out];exact HWT.out,by have:=HDT.out;omega,HBX.out⟩
      case measure=>simp[intOf];omega
   ·obtain rfl:t=m:=by omega
    have hti:¬ ((t:Int)<(t:Int)):=by omega
    have htd:decide ((t:Int)<(t:Int))=false:=decide_eq_false hti
    obtain⟨s4,p4,n4,c4,t4,q4,m4,d4,b0,b1,b2,b3,hdq⟩:=hrw.rd.val 0 (by omega)
    try rw[Nat.zero_mul,Nat.zero_add]at *
    have hr5:=hrw.r5
    obtain⟨u0,z0⟩:=Option.isSome_iff_exists.1 (hr5.has 0 (by omega))
    obtain⟨u1,z1⟩:=Option.isSome_iff_exists.1 (hr5.has 1 (by omega))
    obtain⟨u2,z2⟩:=Option.isSome_iff_exists.1 (hr5.has 2 (by omega))
    obtain⟨u3,z3⟩:=Option.isSome_iff_exists.1 (hr5.has 3 (by omega))
    have k0:=hr5.free 0 (by omega)
    have k1:=hr5.free 1 (by omega)
    have k2:=hr5.free 2 (by omega)
    have k3:=hr5.free 3 (by omega)
    have HP0:=Kh (show((we.setCell ⟨g5,0,none⟩ (.bool s4))).cell? ⟨g5,0,none⟩=some (.bool s4)from World.cell?_setCell_same' _ _ _ (by rw[z0];rfl))
    have HP1:=Kh (show(((we.setCell ⟨g5,0,none⟩ (.bool s4)).setCell ⟨g5,1,none⟩ (.slice p4 n4 c4))).cell? ⟨g5,1,none⟩=some (.slice p4 n4 c4)from World.cell?_setCell_same' _ _ _ (some_put (by rw[z1];rfl)))
    have HP2:=Kh (show((((we.setCell ⟨g5,0,none⟩ (.bool s4)).setCell ⟨g5,1,none⟩ (.slice p4 n4 c4)).setCell ⟨g5,2,none⟩ (.bool t4))).cell? ⟨g5,2,none⟩=some (.bool t4)from World.cell?_setCell_same' _ _ _ (some_put (some_put (by rw[z2];rfl))))
    have HP3:=Kh (show(((((we.setCell ⟨g5,0,none⟩ (.bool s4)).setCell ⟨g5,1,none⟩ (.slice p4 n4 c4)).setCell ⟨g5,2,none⟩ (.bool t4)).setCell ⟨g5,3,none⟩ (.slice q4 m4 d4))).cell? ⟨g5,3,none⟩=some (.slice q4 m4 d4)from World.cell?_setCell_same' _ _ _ (some_put (some_put (some_put (by rw[z3];rfl)))))
    have HFIN:=Kh ((hrw.keep (Below.refl _ we).drew).res (.bool s4) (.slice p4 n4 c4) (.bool t4) (.slice q4 m4 d4) (NotInt.bool _) (NotInt.slice _ _ _) (NotInt.bool _))
    have HLF:=Kh (r4_below HBW.out.drew (show B≤w.heap.size from HBS.out) HG5.out (.bool s4) (.slice p4 n4 c4) (.bool t4) (.slice q4 m4 d4))
    clear hrw hdq
    go_upto_region 22 with(fail)
    refine rgB (fun W=>W.cell? ⟨gd,0,none⟩=some (.bool s4)∧W.cell? ⟨gd,1,none⟩=some (.slice p4 n4 c4)∧W.cell? ⟨gd,2,none⟩=some (.bool t4)∧W.cell? ⟨gd,3,none⟩=some (.slice q4 m4 d4)∧W.cell? ⟨g5,0,none⟩=some (u0)∧W.frozen? ⟨g5,0,none⟩=false∧W.cell? ⟨g5,1,none⟩=some (u1)∧W.frozen? ⟨g5,1,none⟩=false∧W.cell? ⟨g5,2,none⟩=some (u2)∧W.frozen? ⟨g5,2,none⟩=false∧W.cell? ⟨g5,3,none⟩=some (u3)∧W.frozen? ⟨g5,3,none⟩=false) (fun W hb=>⟨cnx hb b0,cnx hb b1,cnx hb b2,cnx hb b3,cnx hb z0,frozen_keep hb (by rw[z0];rfl) (hr5.free 0 (by omega)),cnx hb z1,frozen_keep hb (by rw[z1];rfl) (hr5.free 1 (by omega)),cnx hb z2,frozen_keep hb (by rw[z2];rfl) (hr5.free 2 (by omega)),cnx hb z3,frozen_keep hb (by rw[z3];rfl) (hr5.free 3 (by omega))⟩) (fun HSE hHeld0=>?_)
    refine tkE 0 ?_;refine tkE 1 ?_;refine tkE 2 ?_
    refine laE 3 rfl (fun K hK=>?_)
    go_simp
    refine hK.out _ _ ?_
    clear hK K
    (try simp only[Act.put,lsa,lsz,lss])
    go_wp2
    have e0:=HP0.out
    have e1:=HP1.out
    have e2:=HP2.out
    have e3:=HP3.out
    try simp only[Exit.inBlock,Exit.then]
    refine bodyPost_ret (by simp[results,Tryz.results133,go_sem,e0,e1,e2,e3];try rfl) rfl ?_
    exact⟨_,_,_,_,c,t,F',gs',ld,L,R,O,rfl,HGA.out,.inr rfl,HFIN.out.1,HFIN.out.2,HLF.out⟩
  ·obtain rfl:c=C:=by omega
   have hci:¬ ((c:Int)<(c:Int)):=by omega
   have hcd:decide ((c:Int)<(c:Int))=false:=decide_eq_false hci
   obtain⟨s4,p4,n4,c4,t4,q4,m4,d4,b0,b1,b2,b3,hdq⟩:=hrw.rd.val 0 (by omega)
   try rw[Nat.zero_mul,Nat.zero_add]at *
   have hr5:=hrw.r5
   obtain⟨u0,z0⟩:=Option.isSome_iff_exists.1 (hr5.has 0 (by omega))
   obtain⟨u1,z1⟩:=Option.isSome_iff_exists.1 (hr5.has 1 (by omega))
   obtain⟨u2,z2⟩:=Option.isSome_iff_exists.1 (hr5.has 2 (by omega))
   obtain⟨u3,z3⟩:=Option.isSome_iff_exists.1 (hr5.has 3 (by omega))
   have k0:=hr5.free 0 (by omega)
   have k1:=hr5.free 1 (by omega)
   have k2:=hr5.free 2 (by omega)
   have k3:=hr5.free 3 (by omega)
   have HP0:=Kh (show((we.setCell ⟨g5,0,none⟩ (.bool s4))).cell? ⟨g5,0,none⟩=some (.bool s4)from World.cell?_setCell_same' _ _ _ (by rw[z0];rfl))
   have HP1:=Kh (show(((we.setCell ⟨g5,0,none⟩ (.bool s4)).setCell ⟨g5,1,none⟩ (.slice p4 n4 c4))).cell? ⟨g5,1,none⟩=some (.slice p4 n4 c4)from World.cell?_setCell_same' _ _ _ (some_put (by rw[z1];rfl)))
   have HP2:=Kh (show((((we.setCell ⟨g5,0,none⟩ (.bool s4)).setCell ⟨g5,1,none⟩ (.slice p4 n4 c4)).setCell ⟨g5,2,none⟩ (.bool t4))).cell? ⟨g5,2,none⟩=some (.bool t4)from World.cell?_setCell_same' _ _ _ (some_put (some_put (by rw[z2];rfl))))
   have HP3:=Kh (show(((((we.setCell ⟨g5,0,none⟩ (.bool s4)).setCell ⟨g5,1,none⟩ (.slice p4 n4 c4)).setCell ⟨g5,2,none⟩ (.bool t4)).setCell ⟨g5,3,none⟩ (.slice q4 m4 d4))).cell? ⟨g5,3,none⟩=some (.slice q4 m4 d4)from World.cell?_setCell_same' _ _ _ (some_put (some_put (some_put (by rw[z3];rfl)))))
   have HFIN:=Kh ((hrw.keep (Below.refl _ we).drew).res (.bool s4) (.slice p4 n4 c4) (.bool t4) (.slice q4 m4 d4) (NotInt.bool _) (NotInt.slice _ _ _) (NotInt.bool _))
   have HLF:=Kh (r4_below HBW.out.drew (show B≤w.heap.size from HBS.out) HG5.out (.bool s4) (.slice p4 n4 c4) (.bool t4) (.slice q4 m4 d4))
   clear hrw hdq
   go_upto_region 22 with(fail)
   refine rgB (fun W=>W.cell? ⟨gd,0,none⟩=some (.bool s4)∧W.cell? ⟨gd,1,none⟩=some (.slice p4 n4 c4)∧W.cell? ⟨gd,2,none⟩=some (.bool t4)∧W.cell? ⟨gd,3,none⟩=some (.slice q4 m4 d4)∧W.cell? ⟨g5,0,none⟩=some (u0)∧W.frozen? ⟨g5,0,none⟩=false∧W.cell? ⟨g5,1,none⟩=some (u1)∧W.frozen? ⟨g5,1,none⟩=false∧W.cell? ⟨g5,2,none⟩=some (u2)∧W.frozen? ⟨g5,2,none⟩=false∧W.cell? ⟨g5,3,none⟩=some (u3)∧W.frozen? ⟨g5,3,none⟩=false) (fun W hb=>⟨cnx hb b0,cnx hb b1,cnx hb b2,cnx hb b3,cnx hb z0,frozen_keep hb (by rw[z0];rfl) (hr5.free 0 (by omega)),cnx hb z1,frozen_keep hb (by rw[z1];rfl) (hr5.free 1 (by omega)),cnx hb z2,frozen_keep hb (by rw[z2];rfl) (hr5.free 2 (by omega)),cnx hb z3,frozen_keep hb (by rw[z3];rfl) (hr5.free 3 (by omega))⟩) (fun HSE hHeld0=>?_)
   refine tkE 0 ?_;refine tkE 1 ?_;refine tkE 2 ?_
   refine laE 3 rfl (fun K hK=>?_)
   go_simp
   refine hK.out _ _ ?_
   clear hK K
   (try simp only[Act.put,lsa,lsz,lss])
   go_wp2
   have e0:=HP0.out
   have e1:=HP1.out
   have e2:=HP2.out
   have e3:=HP3.out
   try simp only[Exit.inBlock,Exit.then]
   refine bodyPost_ret (by simp[results,Tryz.results133,go_sem,e0,e1,e2,e3];try rfl) rfl ?_
   exact⟨_,_,_,_,c,t,F',gs',ld,L,R,O,rfl,HGA.out,.inl rfl,HFIN.out.1,HFIN.out.2,HLF.out⟩
end Go.Proofs.YthikonjlgljikaaGreatDoor
