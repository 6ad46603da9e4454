/- Rows of integers in memory. -/
import Derived.Test.YtenlbhlllgppmaaGreatDoorK18
import Derived.Test.YtenlbhlllgppmaaGreatDoorK15
import Derived.Test.YtenlbhlllgppmaaGreatDoorK13
set_option linter.unusedSimpArgs false
set_option maxRecDepth 100000
set_option maxHeartbeats 8000000
namespace Go.Proofs.YtenlbhlllgppmaaGreatDoor
open Go.RowKit
def ZE (z:Int) (w:World) (g i:Nat):Prop:=∃ s p n c,w.cell? ⟨g,i,none⟩=some (.bool s)∧w.cell? ⟨g,i+1,none⟩=some (.slice p n c)∧Zs w s p n c z
theorem ZE.keep {z:Int} {w w':World} {g i:Nat} (h:ZE z w g i) (hb:Below w.heap.size w w'):ZE z w' g i:=by
 obtain⟨s,p,n,c,h0,h1,h4⟩:=h
 have hk:∀ j v,w.cell? ⟨g,j,none⟩=some v→w'.cell? ⟨g,j,none⟩=some v:=fun j v e=>(hb.cell (p:=⟨g,j,none⟩) (World.block_lt_of_cell? w ⟨g,j,none⟩ e)).trans e
 exact⟨s,p,n,c,hk _ _ h0,hk _ _ h1,h4.i32 (I32.below hb)⟩
def ZL (f:Nat→Int) (w:World) (v:Value) (n:Nat):Prop:=(n=0∧∃ a c,v=.slice a 0 c)∨∃ g o cap,v=.slice (some ⟨g,o,none⟩) n cap∧g<w.heap.size∧∀ j,j<n→ZE (f j) w g (o+j*2)
theorem ZL.keep {f:Nat→Int} {w w':World} {v:Value} {n:Nat} (h:ZL f w v n) (hb:Below w.heap.size w w'):ZL f w' v n:=by
 rcases h with h |⟨g,o,cap,e,hg,hc⟩
 ·exact .inl h
 ·exact .inr ⟨g,o,cap,e,Nat.lt_of_lt_of_le hg hb.size,fun j hj=>(hc j hj).keep hb⟩
structure ZRow (f:Nat→Int) (w:World) (g N k:Nat):Prop where
 sts:Sts w g
 free:∀ i,i<N*2→w.frozen? ⟨g,i,none⟩=false
 has:∀ i,i<N*2→(w.cell? ⟨g,i,none⟩).isSome=true
 val:∀ j,j<k→ZE (f j) w g (j*2)
theorem ZRow.keep {f:Nat→Int} {w w':World} {g N k:Nat} (h:ZRow f w g N k) (hb:Below w.heap.size w w'):ZRow f w' g N k:=
 ⟨h.sts.next hb,fun i hi=>frozen_keep hb (h.has i hi) (h.free i hi),fun i hi=>by rw[hb.cell (p:=⟨g,i,none⟩) h.sts.1];exact h.has i hi,fun j hj=>(h.val j hj).keep hb⟩
theorem ZRow.congr {f f':Nat→Int} {w:World} {g N k:Nat} (h:ZRow f w g N k) (e:∀ j,j<k→f j=f' j):ZRow f' w g N k:=⟨h.sts,h.free,h.has,fun j hj=>by rw[← e j hj];exact h.val j hj⟩
theorem ZRow.set {f:Nat→Int} {w:World} {g N k k':Nat} (h:ZRow f w g N k) (j:Nat) (hj:j<N) (f':Nat→Int) (hk:∀ i,i<k'→i≠j→i<k∧f i=f' i)
  {s:Bool} {p:Option Addr} {n c:Nat} (hq:Zs w s p n c (f' j)):
  ZRow f' ((w.setCell ⟨g,j*2,none⟩ (.bool s)).setCell ⟨g,j*2+1,none⟩ (.slice p n c)) g N k':=by
 have h32:=I32.put2 h.sts (j*2) (j*2+1) (.bool s) (.slice p n c) (NotInt.bool _)
 have s1:=h.sts.put ⟨g,j*2,none⟩ (.bool s) (NotInt.bool _)
 have s2:=s1.put ⟨g,j*2+1,none⟩ (.slice p n c) (NotInt.slice _ _ _)
 refine⟨s2,fun i hi=>frozen_set (frozen_set (h.free i hi)),fun i hi=>some_put (some_put (h.has i hi)),fun i hi=>?_⟩
 by_cases hij:i=j
 ·subst hij
  have c0:=h.has (i*2) (by omega)
  have c1:=some_put (R:=g) (i:=i*2) (u:=.bool s) (h.has (i*2+1) (by omega))
  refine⟨s,p,n,c,?_,?_,hq.i32 h32⟩
  ·rw[World.cell?_setCell_other _ _ _ _ (by simp),World.cell?_setCell_same' _ _ _ c0]
  ·rw[World.cell?_setCell_same' _ _ _ c1]
 ·obtain⟨hik,e⟩:=hk i hi hij
  obtain⟨s',p',n',c',e0,e1,e4⟩:=h.val i hik
  rw[← e]
  have far:∀ (x:Nat) (v:Value),i*2≤x→x<i*2+2→w.cell? ⟨g,x,none⟩=some v→((w.setCell ⟨g,j*2,none⟩ (.bool s)).setCell ⟨g,j*2+1,none⟩ (.slice p n c)).cell? ⟨g,x,none⟩=some v:=by
   intro x v hx1 hx2 hv
   rw[World.cell?_setCell_other _ _ _ _ (by simp <;> omega),World.cell?_setCell_other _ _ _ _ (by simp <;> omega)]
   exact hv
  exact⟨s',p',n',c',far _ _ (by omega) (by omega) e0,far _ _ (by omega) (by omega) e1,e4.i32 h32⟩
def ZX (z:Int) (w:World) (xs:List Value) (i:Nat):Prop:=∃ s p n c,xs[i]?=some (.bool s)∧xs[i+1]?=some (.slice p n c)∧Zs w s p n c z
def OwnZ (f:Nat→Int) (w:World) (B:Nat) (v:Value) (n:Nat):Prop:=∃ xs,OwnK NotInt w B 84 2 v n xs∧∀ j,j<n→ZX (f j) w xs (j*2)
theorem OwnZ.nil (f:Nat→Int) (w:World) (B:Nat):OwnZ f w B (.slice none 0 0) 0:=⟨[],OwnK.nil _ _ _ _ _,fun _ hj=>absurd hj (Nat.not_lt_zero _)⟩
theorem ZX.i32 {z:Int} {w w':World} (h:I32 w w') {xs:List Value} {i:Nat} (hx:ZX z w xs i):ZX z w' xs i:=by
 obtain⟨s,p,n,c,h0,h1,h4⟩:=hx
 exact⟨s,p,n,c,h0,h1,h4.i32 h⟩
theorem OwnZ.keep {f:Nat→Int} {w w':World} {B n:Nat} {v:Value} (h:OwnZ f w B v n) (hb:Below w.heap.size w w'):OwnZ f w' B v n:=by
 obtain⟨xs,h1,h2⟩:=h
 exact⟨xs,h1.keep hb,fun j hj=>(h2 j hj).i32 (I32.below hb)⟩
theorem ZX.app {z:Int} {w:World} {xs ys:List Value} {i:Nat} (h:ZX z w xs i):ZX z w (xs++ys) i:=by
 obtain⟨s,p,n,c,h0,h1,h4⟩:=h
 have hk:∀ (j:Nat) (v:Value),xs[j]?=some v→(xs++ys)[j]?=some v:=by
  intro j v e
  rw[List.getElem?_append_left]
  ·exact e
  ·rcases Nat.lt_or_ge j xs.length with hlt|hge
   ·exact hlt
   ·rw[List.getElem?_eq_none hge]at e;cases e
 exact⟨s,p,n,c,hk _ _ h0,hk _ _ h1,h4⟩
theorem OwnZ.push {f:Nat→Int} {W w':World} {B n:Nat} {v v':Value} {xs:List Value} (h1:OwnK NotInt W B 84 2 v n xs) (h2:∀ j,j<n→ZX (f j) W xs (j*2))
  {s:Bool} {p:Option Addr} {k c:Nat} (hq:Zs W s p k c (f n)) (h3:OwnK NotInt w' B 84 2 v' (n+1) (xs++[.bool s,.slice p k c])) (hg:W.grownBy w' v.ownBlock):OwnZ f w' B v' (n+1):=by
 have h32:=I32.grown (K:=NotInt) (fun x=>not_int32 x) h1.2 hg
 refine⟨_,h3,fun j hj=>?_⟩
 by_cases hjn:j<n
 ·exact((h2 j hjn).i32 h32).app
 ·obtain rfl:j=n:=by omega
  have hl:xs.length=j*2:=h1.1.1
  refine⟨s,p,k,c,?_,?_,hq.i32 h32⟩
  ·rw[List.getElem?_append_right (by omega),hl,show j*2 - j*2=0 by omega];rfl
  ·rw[List.getElem?_append_right (by omega),hl,show j*2+1 - j*2=1 by omega];rfl
theorem OwnZ.row {f:Nat→Int} {w:World} {B n:Nat} {v:Value} (h:OwnZ f w B v n):(n=0∧v=.slice none 0 0)∨∃ g cap,v=.slice (some ⟨g,0,none⟩) n cap∧B≤g∧ZRow f w g n n:=by
 obtain⟨xs,h1,h2⟩:=h
 rcases own_shape h1.1 with⟨rfl,rfl,_⟩ |⟨g,cap,rfl,hB,hg,hc⟩
 ·exact .inl ⟨rfl,rfl⟩
 ·right
  have hl:xs.length=n*2:=h1.1.1
  have hs:=h1.2 g rfl
  refine⟨g,cap,rfl,hB,⟨hs,?_,?_,?_⟩⟩
  ·intro i hi
   rcases own_block h1.1 with h3 |⟨g',cs,h3,_,h4⟩
   ·simp[Value.ownBlock]at h3
   ·simp[Value.ownBlock]at h3
    subst h3
    exact h4.free_ i
  ·intro i hi
   rw[own_read h1.1 (List.getElem?_eq_getElem (by omega:i<xs.length))];rfl
  ·intro j hj
   obtain⟨s,p,n',c,e0,e1,e4⟩:=h2 j hj
   exact⟨s,p,n',c,own_read h1.1 e0,own_read h1.1 e1,e4⟩
theorem aIntInfo:(Tryz.prog.info? 84).map (fun i=>(i.zero,i.size,i.bytes))=some (some (.agg #[.bool false,.slice none 0 0]),2,32):=by kernel_rfl
theorem niz2:∀ u∈(Value.agg #[.bool false,.slice none 0 0]).cells.toList,NotInt u:=by
 intro u hu
 simp[Value.cells]at hu
 rcases hu with rfl|rfl <;> first|exact NotInt.bool _|exact NotInt.slice _ _ _
end Go.Proofs.YtenlbhlllgppmaaGreatDoor
namespace Go.Proofs.YtenlbhlllgppmaaGreatDoor
def lin (a b:Int) (p:Nat→Int):Nat→Int:=fun j=>(if 0<j then a*p (j - 1)else 0)+b*p j
def mv (i:Nat) (a b c d:Int):Nat→Nat→Int
 | 0=>fun j=>if j=0 then 1 else 0
 | k+1=>if k<i then lin a b (mv i a b c d k)else lin c d (mv i a b c d k)
theorem mv_zero (i:Nat) (a b c d:Int) (k j:Nat) (h:k<j):mv i a b c d k j=0:=by
 induction k generalizing j with
 | zero=>show(if j=0 then(1:Int)else 0)=0;rw[if_neg (by omega)]
 | succ k ih=>
  rw[mv]
  split <;>(unfold lin;rw[ih j (by omega),ih (j - 1) (by omega)];simp)
theorem nd_one':nd 1=1:=by
 have h1:=nd_pos.2 (show(1:Nat)≠0 by decide)
 have h2:=(nd_le (v:=1) (k:=1)).2 (by decide)
 omega
theorem lin_size (a b:Int) (p:Nat→Int) (K:Nat) (ha:nd a.natAbs≤2) (hb:nd b.natAbs≤2) (hp:∀ j,nd (p j).natAbs≤K) (j:Nat):nd (lin a b p j).natAbs≤K+3:=by
 unfold lin
 refine Nat.le_trans (nd_add_int _ _ (K:=K+2) ?_ ?_) (by omega)
 ·split
  ·rw[Int.natAbs_mul];have:=nd_mul a.natAbs (p (j - 1)).natAbs;have:=hp (j - 1);omega
  ·rw[show(0:Int).natAbs=0 from rfl,nd_zero];omega
 ·rw[Int.natAbs_mul];have:=nd_mul b.natAbs (p j).natAbs;have:=hp j;omega
theorem mv_size (i:Nat) (a b c d:Int) (ha:nd a.natAbs≤2) (hb:nd b.natAbs≤2) (hc:nd c.natAbs≤2) (hd:nd d.natAbs≤2) (k j:Nat):nd (mv i a b c d k j).natAbs≤1+3*k:=by
 induction k generalizing j with
 | zero=>
  show nd (if j=0 then(1:Int)else 0).natAbs≤1
  split
  ·exact Nat.le_of_eq nd_one'
  ·rw[show(0:Int).natAbs=0 from rfl,nd_zero];omega
 | succ k ih=>
  rw[mv]
  split
  ·exact lin_size a b _ _ ha hb ih j
  ·exact lin_size c d _ _ hc hd ih j
def sumQ (f:Nat→Rat):Nat→Rat
 | 0=>0
 | n+1=>sumQ f n+f n
def subst (q:Nat→Rat) (w:Nat) (a b c d:Int) (n j:Nat):Rat:=sumQ (fun i=>q i*(mv i a b c d w j:Int)) n
theorem hq_int (z:Int):hq (z:Rat)=max (nd z.natAbs) 1:=by
 unfold hq;rw[Rat.num_intCast,Rat.den_intCast,nd_one']
end Go.Proofs.YtenlbhlllgppmaaGreatDoor
namespace Go.Proofs.YtenlbhlllgppmaaGreatDoor
open Go.RowKit
/-! The contracts of the fractions' functions,for normalized arguments -/
theorem c_qMulQ (s:Bool) (p:Option Addr) (n c:Nat) (t:Bool) (q:Option Addr) (m d:Nat) (x:Rat) (s':Bool) (p':Option Addr) (n' c':Nat) (t':Bool) (q':Option Addr) (m' d':Nat) (y:Rat) (w:World) (h:Qs w s p n c t q m d x) (h':Qs w s' p' n' c' t' q' m' d' y) (hx:hq x≤1000000000) (hy:hq y≤1000000000):
  Calls Tryz.prog 44 #[.agg #[.bool s,.slice p n c,.bool t,.slice q m d],.agg #[.bool s',.slice p' n' c',.bool t',.slice q' m' d']] w fun e w'=>RetQ w' e (x*y)∧Below w.heap.size w w':=by
 have h1:=c_qMul s p n c x.num t q m d x.den s' p' n' c' y.num t' q' m' d' y.den w h.1.raw h.2.raw h'.1.raw h'.2.raw (by have:=h.sizes;omega) (by have:=h.sizes;omega) (by have:=h'.sizes;omega) (by have:=h'.sizes;omega)
 rw[rat_self,rat_self]at h1
 exact h1
theorem c_qAddQ (s:Bool) (p:Option Addr) (n c:Nat) (t:Bool) (q:Option Addr) (m d:Nat) (x:Rat) (s':Bool) (p':Option Addr) (n' c':Nat) (t':Bool) (q':Option Addr) (m' d':Nat) (y:Rat) (w:World) (h:Qs w s p n c t q m d x) (h':Qs w s' p' n' c' t' q' m' d' y) (hx:hq x≤1000000000) (hy:hq y≤1000000000):
  Calls Tryz.prog 39 #[.agg #[.bool s,.slice p n c,.bool t,.slice q m d],.agg #[.bool s',.slice p' n' c',.bool t',.slice q' m' d']] w fun e w'=>RetQ w' e (x+y)∧Below w.heap.size w w':=by
 have h1:=c_qAdd s p n c x.num t q m d x.den s' p' n' c' y.num t' q' m' d' y.den w h.1.raw h.2.raw h'.1.raw h'.2.raw (by have:=h.sizes;omega) (by have:=h.sizes;omega) (by have:=h'.sizes;omega) (by have:=h'.sizes;omega) (den_ne x) (den_ne y)
 rw[rat_self,rat_self]at h1
 exact h1
def QAt (L:Nat→Rat) (k:Nat) (r:Rat) (w:World) (g N:Nat):Prop:=QRow (fun j=>IsQ (if j=k then r else L j)) w g N (k+1)
theorem QAt.keep {L:Nat→Rat} {k:Nat} {r:Rat} {w w':World} {g N:Nat} (h:QAt L k r w g N) (hb:Below w.heap.size w w'):QAt L k r w' g N:=QRow.keep (fun _=>IsQ.solid _) h hb
theorem QAt.set {L:Nat→Rat} {k:Nat} {r:Rat} {w:World} {g N:Nat} (h:QRow (fun j=>IsQ (L j)) w g N k) (hk:k<N) {s:Bool} {p:Option Addr} {n c:Nat} {t:Bool} {q:Option Addr} {m d:Nat} (hq:Qs w s p n c t q m d r):
  QAt L k r ((((w.setCell ⟨g,k*4,none⟩ (.bool s)).setCell ⟨g,k*4+1,none⟩ (.slice p n c)).setCell ⟨g,k*4+2,none⟩ (.bool t)).setCell ⟨g,k*4+3,none⟩ (.slice q m d)) g N:=
 QRow.set (fun _=>IsQ.solid _) h k hk _ (IsQ.solid _) (fun i hi hne=>⟨by omega,by rw[if_neg hne]⟩) (show IsQ (if k=k then r else L k) w s p n c t q m d by rw[if_pos rfl];exact hq)
theorem QAt.upd {L:Nat→Rat} {k:Nat} {r r':Rat} {w:World} {g N:Nat} (h:QAt L k r' w g N) (hk:k<N) {s:Bool} {p:Option Addr} {n c:Nat} {t:Bool} {q:Option Addr} {m d:Nat} (hq:Qs w s p n c t q m d r):
  QAt L k r ((((w.setCell ⟨g,k*4,none⟩ (.bool s)).setCell ⟨g,k*4+1,none⟩ (.slice p n c)).setCell ⟨g,k*4+2,none⟩ (.bool t)).setCell ⟨g,k*4+3,none⟩ (.slice q m d)) g N:=
 QRow.set (fun _=>IsQ.solid _) h k hk _ (IsQ.solid _) (fun i hi hne=>⟨hi,by rw[if_neg hne,if_neg hne]⟩) (show IsQ (if k=k then r else L k) w s p n c t q m d by rw[if_pos rfl];exact hq)
theorem QAt.done {L:Nat→Rat} {k:Nat} {r:Rat} {w:World} {g N:Nat} (h:QAt L k r w g N) (e:r=L k):QRow (fun j=>IsQ (L j)) w g N (k+1):=
 QRow.congr h (fun j _=>by
  by_cases hj:j=k
  ·rw[if_pos hj,hj,e]
  ·rw[if_neg hj])
theorem QAt.elem {L:Nat→Rat} {k:Nat} {r:Rat} {w:World} {g N:Nat} (h:QAt L k r w g N):QE (IsQ r) w g (k*4):=by
 have h1:=QRow.val h k (Nat.lt_succ_self k)
 simpa using h1
theorem cellOf_eq {w:World} {a:Addr} {v:Value} (h:w.cell? a=some v):cellOf w a=v:=by unfold cellOf;rw[h];rfl
def Cells4 (w:World) (g i:Nat) (s:Bool) (p:Option Addr) (n c:Nat) (t:Bool) (q:Option Addr) (m d:Nat):Prop:=
 w.cell? ⟨g,i,none⟩=some (.bool s)∧w.cell? ⟨g,i+1,none⟩=some (.slice p n c)∧w.cell? ⟨g,i+2,none⟩=some (.bool t)∧w.cell? ⟨g,i+3,none⟩=some (.slice q m d)
theorem Cells4.keep {w w':World} {g i:Nat} {s:Bool} {p:Option Addr} {n c:Nat} {t:Bool} {q:Option Addr} {m d:Nat} (h:Cells4 w g i s p n c t q m d) (hb:Below w.heap.size w w'):Cells4 w' g i s p n c t q m d:=by
 have hk:∀ j v,w.cell? ⟨g,j,none⟩=some v→w'.cell? ⟨g,j,none⟩=some v:=fun j v e=>(hb.cell (p:=⟨g,j,none⟩) (World.block_lt_of_cell? w ⟨g,j,none⟩ e)).trans e
 exact⟨hk _ _ h.1,hk _ _ h.2.1,hk _ _ h.2.2.1,hk _ _ h.2.2.2⟩
theorem below_put4g {g:Nat} {w w':World} (h:Below g w w') {i j k l:Nat} {v0 v1 v2 v3:Value}:Below g w ((((w'.setCell ⟨g,i,none⟩ v0).setCell ⟨g,j,none⟩ v1).setCell ⟨g,k,none⟩ v2).setCell ⟨g,l,none⟩ v3):=
 (((h.setCell (p:=⟨g,i,none⟩) (Nat.le_refl _) v0).setCell (p:=⟨g,j,none⟩) (Nat.le_refl _) v1).setCell (p:=⟨g,k,none⟩) (Nat.le_refl _) v2).setCell (p:=⟨g,l,none⟩) (Nat.le_refl _) v3
theorem madeQ {n i:Nat} {v:Value} (h:(madeCells #[.bool false,.slice none 0 0,.bool false,.slice none 0 0] n)[i]?=some v):NotInt v:=by
 unfold madeCells at h
 simp only[Array.getElem?_map,Array.getElem?_range]at h
 split at h
 ·simp only[Option.map_some]at h
  injection h with h
  rw[← h]
  have h2:=Nat.mod_lt i (show 0<4 by decide)
  have h3:i % 4=0∨i % 4=1∨i % 4=2∨i % 4=3:=by omega
  show NotInt ((#[.bool false,.slice none 0 0,.bool false,.slice none 0 0]:Array Value)[i % 4]!)
  rcases h3 with h3|h3|h3|h3 <;> rw[h3] <;> first|exact NotInt.bool _|exact NotInt.slice _ _ _
 ·cases h
theorem QRow.made (F:Nat→FP) (w:World) (n:Nat):QRow F (w.alloc (.cells (madeCells #[.bool false,.slice none 0 0,.bool false,.slice none 0 0] (n*4)) 86)) w.heap.size n 0:=by
 have hb:=Blk.new w 86 (madeCells #[.bool false,.slice none 0 0,.bool false,.slice none 0 0] (n*4))
 refine⟨Sts.of hb ?_,fun i _=>hb.free_ i,fun i hi=>?_,fun j hj=>absurd hj (Nat.not_lt_zero _)⟩
 ·intro v hv
  obtain⟨i,hi⟩:=Array.getElem?_of_mem hv
  exact madeQ hi
 ·rw[hb.cell_ i,Array.getElem?_eq_getElem (by rw[size_madeCells];exact hi)];rfl
theorem makeQ (n:Nat) (h:n≤1000000) (w:World):
  (Instr.makeSlice 30 (.int .i64 (n:Int)) (.int .i64 (n:Int))).run Tryz.prog w=.ok (.slice (some ⟨w.heap.size,0,none⟩) n n) (w.alloc (.cells (madeCells #[.bool false,.slice none 0 0,.bool false,.slice none 0 0] (n*4)) 86)):=by
 obtain⟨i,hi,hz0,hz1,hz2⟩:=info_parts ratInfo
 have hr:=run_make (P:=Tryz.prog) w 30 86 i _ Tryz.underlying30 hi hz0 .i64 .i64 n n (by omega) (Int.le_refl _) (by rw[hz2];omega) (by omega)
 rw[Int.toNat_natCast,hz1]at hr
 exact hr
/-! Everything but one block stays -/
theorem but_below {w w':World} (g:Nat) (h:Below w.heap.size w w'):w.grownBy w' (some g):=⟨h.os,h.tape,h.output,h.size,fun k hk _=>h.block k hk⟩
theorem but_put (w:World) (g i:Nat) (v:Value):w.grownBy (w.setCell ⟨g,i,none⟩ v) (some g):=
 ⟨rfl,rfl,rfl,by simp,fun k hk hne=>Below.heap_setCell w ⟨g,i,none⟩ v k (fun e=>hne (by rw[e]))⟩
theorem but_put4 (w:World) (g i j k l:Nat) (v0 v1 v2 v3:Value):w.grownBy ((((w.setCell ⟨g,i,none⟩ v0).setCell ⟨g,j,none⟩ v1).setCell ⟨g,k,none⟩ v2).setCell ⟨g,l,none⟩ v3) (some g):=
 (((but_put w g i v0).trans (but_put _ g j v1)).trans (but_put _ g k v2)).trans (but_put _ g l v3)
theorem I32.but {w w':World} {g:Nat} (hs:Sts w g) (h:w.grownBy w' (some g)):I32 w w':=
 ⟨h.size,fun g' i n e=>h.cell e (fun e2=>by
  injection e2 with e2
  exact hs.2 i _ (by rw[← e2];exact e) _ _ rfl)⟩
theorem QE.but {P:FP} (hP:Solid P) {w w':World} {g g' i:Nat} (hs:Sts w g) (h:w.grownBy w' (some g)) (hne:g'≠g) (hq:QE P w g' i):QE P w' g' i:=by
 obtain⟨s,p,n,c,t,q,m,d,h0,h1,h2,h3,h4⟩:=hq
 have hk:∀ j v,w.cell? ⟨g',j,none⟩=some v→w'.cell? ⟨g',j,none⟩=some v:=fun j v e=>h.cell e (fun e2=>by injection e2 with e2;exact hne e2)
 exact⟨s,p,n,c,t,q,m,d,hk _ _ h0,hk _ _ h1,hk _ _ h2,hk _ _ h3,hP _ _ _ _ _ _ _ _ _ _ (I32.but hs h) h4⟩
def PL (g:Nat) (f:Nat→Rat) (w:World) (v:Value) (n:Nat):Prop:=∃ g' cap,v=.slice (some ⟨g',0,none⟩) n cap∧g<g'∧g'<w.heap.size∧∀ j,j<n→QE (IsQ (f j)) w g' (j*4)
theorem PL.keep {g:Nat} {f:Nat→Rat} {w w':World} {v:Value} {n:Nat} (h:PL g f w v n) (hb:Below w.heap.size w w'):PL g f w' v n:=by
 obtain⟨g',cap,e,h1,h2,h3⟩:=h
 exact⟨g',cap,e,h1,Nat.lt_of_lt_of_le h2 hb.size,fun j hj=>(h3 j hj).keep (IsQ.solid _) hb⟩
theorem PL.but {g:Nat} {f:Nat→Rat} {w w':World} {v:Value} {n:Nat} (h:PL g f w v n) (hs:Sts w g) (hb:w.grownBy w' (some g)):PL g f w' v n:=by
 obtain⟨g',cap,e,h1,h2,h3⟩:=h
 exact⟨g',cap,e,h1,Nat.lt_of_lt_of_le h2 hb.size,fun j hj=>(h3 j hj).but (IsQ.solid _) hs hb (by omega)⟩
theorem PL.ql {g:Nat} {f:Nat→Rat} {w:World} {v:Value} {n:Nat} (h:PL g f w v n):QL (fun j=>IsQ (f j)) w v n:=by
 obtain⟨g',cap,e,h1,h2,h3⟩:=h
 exact .inr ⟨g',0,cap,e,h2,fun j hj=>by rw[Nat.zero_add];exact h3 j hj⟩
theorem PL.congr {g:Nat} {f f':Nat→Rat} {w:World} {v:Value} {n:Nat} (h:PL g f w v n) (e:∀ j,j<n→f j=f' j):PL g f' w v n:=by
 obtain⟨g',cap,e',h1,h2,h3⟩:=h
 exact⟨g',cap,e',h1,h2,fun j hj=>by rw[← e j hj];exact h3 j hj⟩
theorem below_but {B:Nat} {b w w':World} {g:Nat} (h:Below B b w) (hg:w.grownBy w' (some g)) (h1:B≤w.heap.size) (h2:B≤g):Below B b w':=h.grown hg h1 (fun k hk=>by injection hk with hk;omega)
theorem nd64 {a:Int} (h:-1073741824≤a) (h':a≤1073741824):nd a.natAbs≤2:=nd_le.2 (show a.natAbs<4294967296 ^ 2 by omega)
def IsB (K:Nat) (x y:Int):FP:=fun w s p n c t q m d=>Zr w s p n c x∧Zr w t q m d y∧n≤K∧m≤K
theorem IsB.solid (K:Nat) (x y:Int):Solid (IsB K x y):=fun _ _ _ _ _ _ _ _ _ _ h hq=>⟨hq.1.i32 h,hq.2.1.i32 h,hq.2.2⟩
theorem ZE.but {z:Int} {w w':World} {g g' i:Nat} (hs:Sts w g) (h:w.grownBy w' (some g)) (hne:g'≠g) (hq:ZE z w g' i):ZE z w' g' i:=by
 obtain⟨s,p,n,c,h0,h1,h4⟩:=hq
 have hk:∀ j v,w.cell? ⟨g',j,none⟩=some v→w'.cell? ⟨g',j,none⟩=some v:=fun j v e=>h.cell e (fun e2=>by injection e2 with e2;exact hne e2)
 exact⟨s,p,n,c,hk _ _ h0,hk _ _ h1,h4.i32 (I32.but hs h)⟩
def Cells2 (w:World) (g i:Nat) (s:Bool) (p:Option Addr) (n c:Nat):Prop:=w.cell? ⟨g,i,none⟩=some (.bool s)∧w.cell? ⟨g,i+1,none⟩=some (.slice p n c)
theorem Cells2.keep {w w':World} {g i:Nat} {s:Bool} {p:Option Addr} {n c:Nat} (h:Cells2 w g i s p n c) (hb:Below w.heap.size w w'):Cells2 w' g i s p n c:=by
 have hk:∀ j v,w.cell? ⟨g,j,none⟩=some v→w'.cell? ⟨g,j,none⟩=some v:=fun j v e=>(hb.cell (p:=⟨g,j,none⟩) (World.block_lt_of_cell? w ⟨g,j,none⟩ e)).trans e
 exact⟨hk _ _ h.1,hk _ _ h.2⟩
theorem but_put2 (w:World) (g i j:Nat) (v0 v1:Value):w.grownBy ((w.setCell ⟨g,i,none⟩ v0).setCell ⟨g,j,none⟩ v1) (some g):=(but_put w g i v0).trans (but_put _ g j v1)
end Go.Proofs.YtenlbhlllgppmaaGreatDoor
