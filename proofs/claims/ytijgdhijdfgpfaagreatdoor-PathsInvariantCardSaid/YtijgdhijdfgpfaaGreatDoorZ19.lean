/- Rows of integers in memory. -/
import Derived.Test.YtijgdhijdfgpfaaGreatDoorZ18
import Derived.Test.YtijgdhijdfgpfaaGreatDoorZ15
import Derived.Test.YtijgdhijdfgpfaaGreatDoorZ13
set_option linter.unusedSimpArgs false
set_option maxRecDepth 100000
set_option maxHeartbeats 8000000
namespace Go.Proofs.YtijgdhijdfgpfaaGreatDoor
open Go.RowKit
def ZE (z:Int) (w:World) (g i:Nat):Prop:=∃ s p n c,w.cell? ⟨g,i,none⟩=some (.bool s)∧w.cell? ⟨g,i+1,none⟩=some (.slice p n c)∧Zs w s p n c z
theorem ZE.keep {z:Int} {w w':World} {g i:Nat} (h:ZE z w g i) (hb:Below w.heap.size w w'):ZE z w' g i:=by
 obtain⟨s,p,n,c,h0,h1,h4⟩:=h
 have hk:∀ j v,w.cell? ⟨g,j,none⟩=some v→w'.cell? ⟨g,j,none⟩=some v:=fun j v e=>(hb.cell (p:=⟨g,j,none⟩) (World.block_lt_of_cell? w ⟨g,j,none⟩ e)).trans e
 exact⟨s,p,n,c,hk _ _ h0,hk _ _ h1,h4.i32 (I32.below hb)⟩
def ZL (f:Nat→Int) (w:World) (v:Value) (n:Nat):Prop:=(n=0∧∃ a c,v=.slice a 0 c)∨∃ g o cap,v=.slice (some ⟨g,o,none⟩) n cap∧g<w.heap.size∧∀ j,j<n→ZE (f j) w g (o+j*2)
theorem ZL.keep {f:Nat→Int} {w w':World} {v:Value} {n:Nat} (h:ZL f w v n) (hb:Below w.heap.size w w'):ZL f w' v n:=by
 rcases h with h |⟨g,o,cap,e,hg,hc⟩
 ·exact .inl h
 ·exact .inr ⟨g,o,cap,e,Nat.lt_of_lt_of_le hg hb.size,fun j hj=>(hc j hj).keep hb⟩
structure ZRow (f:Nat→Int) (w:World) (g N k:Nat):Prop where
 sts:Sts w g
 free:∀ i,i<N*2→w.frozen? ⟨g,i,none⟩=false
 has:∀ i,i<N*2→(w.cell? ⟨g,i,none⟩).isSome=true
 val:∀ j,j<k→ZE (f j) w g (j*2)
theorem ZRow.keep {f:Nat→Int} {w w':World} {g N k:Nat} (h:ZRow f w g N k) (hb:Below w.heap.size w w'):ZRow f w' g N k:=
 ⟨h.sts.next hb,fun i hi=>frozen_keep hb (h.has i hi) (h.free i hi),fun i hi=>by rw[hb.cell (p:=⟨g,i,none⟩) h.sts.1];exact h.has i hi,fun j hj=>(h.val j hj).keep hb⟩
theorem ZRow.congr {f f':Nat→Int} {w:World} {g N k:Nat} (h:ZRow f w g N k) (e:∀ j,j<k→f j=f' j):ZRow f' w g N k:=⟨h.sts,h.free,h.has,fun j hj=>by rw[← e j hj];exact h.val j hj⟩
theorem ZRow.set {f:Nat→Int} {w:World} {g N k k':Nat} (h:ZRow f w g N k) (j:Nat) (hj:j<N) (f':Nat→Int) (hk:∀ i,i<k'→i≠j→i<k∧f i=f' i)
  {s:Bool} {p:Option Addr} {n c:Nat} (hq:Zs w s p n c (f' j)):
  ZRow f' ((w.setCell ⟨g,j*2,none⟩ (.bool s)).setCell ⟨g,j*2+1,none⟩ (.slice p n c)) g N k':=by
 have h32:=I32.put2 h.sts (j*2) (j*2+1) (.bool s) (.slice p n c) (NotInt.bool _)
 have s1:=h.sts.put ⟨g,j*2,none⟩ (.bool s) (NotInt.bool _)
 have s2:=s1.put ⟨g,j*2+1,none⟩ (.slice p n c) (NotInt.slice _ _ _)
 refine⟨s2,fun i hi=>frozen_set (frozen_set (h.free i hi)),fun i hi=>some_put (some_put (h.has i hi)),fun i hi=>?_⟩
 by_cases hij:i=j
 ·subst hij
  have c0:=h.has (i*2) (by omega)
  have c1:=some_put (R:=g) (i:=i*2) (u:=.bool s) (h.has (i*2+1) (by omega))
  refine⟨s,p,n,c,?_,?_,hq.i32 h32⟩
  ·rw[World.cell?_setCell_other _ _ _ _ (by simp),World.cell?_setCell_same' _ _ _ c0]
  ·rw[World.cell?_setCell_same' _ _ _ c1]
 ·obtain⟨hik,e⟩:=hk i hi hij
  obtain⟨s',p',n',c',e0,e1,e4⟩:=h.val i hik
  rw[← e]
  have far:∀ (x:Nat) (v:Value),i*2≤x→x<i*2+2→w.cell? ⟨g,x,none⟩=some v→((w.setCell ⟨g,j*2,none⟩ (.bool s)).setCell ⟨g,j*2+1,none⟩ (.slice p n c)).cell? ⟨g,x,none⟩=some v:=by
   intro x v hx1 hx2 hv
   rw[World.cell?_setCell_other _ _ _ _ (by simp <;> omega),World.cell?_setCell_other _ _ _ _ (by simp <;> omega)]
   exact hv
  exact⟨s',p',n',c',far _ _ (by omega) (by omega) e0,far _ _ (by omega) (by omega) e1,e4.i32 h32⟩
def ZX (z:Int) (w:World) (xs:List Value) (i:Nat):Prop:=∃ s p n c,xs[i]?=some (.bool s)∧xs[i+1]?=some (.slice p n c)∧Zs w s p n c z
def OwnZ (f:Nat→Int) (w:World) (B:Nat) (v:Value) (n:Nat):Prop:=∃ xs,OwnK NotInt w B 65 2 v n xs∧∀ j,j<n→ZX (f j) w xs (j*2)
theorem OwnZ.nil (f:Nat→Int) (w:World) (B:Nat):OwnZ f w B (.slice none 0 0) 0:=⟨[],OwnK.nil _ _ _ _ _,fun _ hj=>absurd hj (Nat.not_lt_zero _)⟩
theorem ZX.i32 {z:Int} {w w':World} (h:I32 w w') {xs:List Value} {i:Nat} (hx:ZX z w xs i):ZX z w' xs i:=by
 obtain⟨s,p,n,c,h0,h1,h4⟩:=hx
 exact⟨s,p,n,c,h0,h1,h4.i32 h⟩
theorem OwnZ.keep {f:Nat→Int} {w w':World} {B n:Nat} {v:Value} (h:OwnZ f w B v n) (hb:Below w.heap.size w w'):OwnZ f w' B v n:=by
 obtain⟨xs,h1,h2⟩:=h
 exact⟨xs,h1.keep hb,fun j hj=>(h2 j hj).i32 (I32.below hb)⟩
theorem ZX.app {z:Int} {w:World} {xs ys:List Value} {i:Nat} (h:ZX z w xs i):ZX z w (xs++ys) i:=by
 obtain⟨s,p,n,c,h0,h1,h4⟩:=h
 have hk:∀ (j:Nat) (v:Value),xs[j]?=some v→(xs++ys)[j]?=some v:=by
  intro j v e
  rw[List.getElem?_append_left]
  ·exact e
  ·rcases Nat.lt_or_ge j xs.length with hlt|hge
   ·exact hlt
   ·rw[List.getElem?_eq_none hge]at e;cases e
 exact⟨s,p,n,c,hk _ _ h0,hk _ _ h1,h4⟩
theorem OwnZ.push {f:Nat→Int} {W w':World} {B n:Nat} {v v':Value} {xs:List Value} (h1:OwnK NotInt W B 65 2 v n xs) (h2:∀ j,j<n→ZX (f j) W xs (j*2))
  {s:Bool} {p:Option Addr} {k c:Nat} (hq:Zs W s p k c (f n)) (h3:OwnK NotInt w' B 65 2 v' (n+1) (xs++[.bool s,.slice p k c])) (hg:W.grownBy w' v.ownBlock):OwnZ f w' B v' (n+1):=by
 have h32:=I32.grown (K:=NotInt) (fun x=>not_int32 x) h1.2 hg
 refine⟨_,h3,fun j hj=>?_⟩
 by_cases hjn:j<n
 ·exact((h2 j hjn).i32 h32).app
 ·obtain rfl:j=n:=by omega
  have hl:xs.length=j*2:=h1.1.1
  refine⟨s,p,k,c,?_,?_,hq.i32 h32⟩
  ·rw[List.getElem?_append_right (by omega),hl,show j*2 - j*2=0 by omega];rfl
  ·rw[List.getElem?_append_right (by omega),hl,show j*2+1 - j*2=1 by omega];rfl
theorem OwnZ.row {f:Nat→Int} {w:World} {B n:Nat} {v:Value} (h:OwnZ f w B v n):(n=0∧v=.slice none 0 0)∨∃ g cap,v=.slice (some ⟨g,0,none⟩) n cap∧B≤g∧ZRow f w g n n:=by
 obtain⟨xs,h1,h2⟩:=h
 rcases own_shape h1.1 with⟨rfl,rfl,_⟩ |⟨g,cap,rfl,hB,hg,hc⟩
 ·exact .inl ⟨rfl,rfl⟩
 ·right
  have hl:xs.length=n*2:=h1.1.1
  have hs:=h1.2 g rfl
  refine⟨g,cap,rfl,hB,⟨hs,?_,?_,?_⟩⟩
  ·intro i hi
   rcases own_block h1.1 with h3 |⟨g',cs,h3,_,h4⟩
   ·simp[Value.ownBlock]at h3
   ·simp[Value.ownBlock]at h3
    subst h3
    exact h4.free_ i
  ·intro i hi
   rw[own_read h1.1 (List.getElem?_eq_getElem (by omega:i<xs.length))];rfl
  ·intro j hj
   obtain⟨s,p,n',c,e0,e1,e4⟩:=h2 j hj
   exact⟨s,p,n',c,own_read h1.1 e0,own_read h1.1 e1,e4⟩
theorem aIntInfo:(Tryz.prog.info? 65).map (fun i=>(i.zero,i.size,i.bytes))=some (some (.agg #[.bool false,.slice none 0 0]),2,32):=by kernel_rfl
theorem niz2:∀ u∈(Value.agg #[.bool false,.slice none 0 0]).cells.toList,NotInt u:=by
 intro u hu
 simp[Value.cells]at hu
 rcases hu with rfl|rfl <;> first|exact NotInt.bool _|exact NotInt.slice _ _ _
end Go.Proofs.YtijgdhijdfgpfaaGreatDoor
namespace Go.Proofs.YtijgdhijdfgpfaaGreatDoor
def lin (a b:Int) (p:Nat→Int):Nat→Int:=fun j=>(if 0<j then a*p (j - 1)else 0)+b*p j
def mv (i:Nat) (a b c d:Int):Nat→Nat→Int
 | 0=>fun j=>if j=0 then 1 else 0
 | k+1=>if k<i then lin a b (mv i a b c d k)else lin c d (mv i a b c d k)
theorem mv_zero (i:Nat) (a b c d:Int) (k j:Nat) (h:k<j):mv i a b c d k j=0:=by
 induction k generalizing j with
 | zero=>show(if j=0 then(1:Int)else 0)=0;rw[if_neg (by omega)]
 | succ k ih=>
  rw[mv]
  split <;>(unfold lin;rw[ih j (by omega),ih (j - 1) (by omega)];simp)
theorem nd_one':nd 1=1:=by
 have h1:=nd_pos.2 (show(1:Nat)≠0 by decide)
 have h2:=(nd_le (v:=1) (k:=1)).2 (by decide)
 omega
theorem lin_size (a b:Int) (p:Nat→Int) (K:Nat) (ha:nd a.natAbs≤2) (hb:nd b.natAbs≤2) (hp:∀ j,nd (p j).natAbs≤K) (j:Nat):nd (lin a b p j).natAbs≤K+3:=by
 unfold lin
 refine Nat.le_trans (nd_add_int _ _ (K:=K+2) ?_ ?_) (by omega)
 ·split
  ·rw[Int.natAbs_mul];have:=nd_mul a.natAbs (p (j - 1)).natAbs;have:=hp (j - 1);omega
  ·rw[show(0:Int).natAbs=0 from rfl,nd_zero];omega
 ·rw[Int.natAbs_mul];have:=nd_mul b.natAbs (p j).natAbs;have:=hp j;omega
theorem mv_size (i:Nat) (a b c d:Int) (ha:nd a.natAbs≤2) (hb:nd b.natAbs≤2) (hc:nd c.natAbs≤2) (hd:nd d.natAbs≤2) (k j:Nat):nd (mv i a b c d k j).natAbs≤1+3*k:=by
 induction k generalizing j with
 | zero=>
  show nd (if j=0 then(1:Int)else 0).natAbs≤1
  split
  ·exact Nat.le_of_eq nd_one'
  ·rw[show(0:Int).natAbs=0 from rfl,nd_zero];omega
 | succ k ih=>
  rw[mv]
  split
  ·exact lin_size a b _ _ ha hb ih j
  ·exact lin_size c d _ _ hc hd ih j
def sumQ (f:Nat→Rat):Nat→Rat
 | 0=>0
 | n+1=>sumQ f n+f n
def subst (q:Nat→Rat) (w:Nat) (a b c d:Int) (n j:Nat):Rat:=sumQ (fun i=>q i*(mv i a b c d w j:Int)) n
theorem hq_int (z:Int):hq (z:Rat)=max (nd z.natAbs) 1:=by
 unfold hq;rw[Rat.num_intCast,Rat.den_intCast,nd_one']
theorem sumQ_size (f:Nat→Rat) (K:Nat) (n:Nat) (h:∀ i,i<n→hq (f i)≤K):hq (sumQ f n)≤1+n*(K+1):=by
 induction n with
 | zero=>show hq (0:Rat)≤_;simp[hq,nd_zero,nd_one']
 | succ n ih=>
  rw[sumQ,Nat.succ_mul]
  have h1:=ih (fun i hi=>h i (by omega))
  have h2:=hq_add (sumQ f n) (f n)
  have h3:=h n (by omega)
  omega
theorem lin_scaled (q:Rat) (a b:Int) (p:Nat→Int) (j:Nat):q*(lin a b p j:Int)=(if 0<j then(a:Rat)*(q*(p (j - 1):Int))else 0)+(b:Rat)*(q*(p j:Int)):=by
 unfold lin
 split <;> simp <;> grind
end Go.Proofs.YtijgdhijdfgpfaaGreatDoor
namespace Go.Proofs.YtijgdhijdfgpfaaGreatDoor
open Go.RowKit
/-! The contracts of the fractions' functions,for normalized arguments -/
theorem c_qMulQ (s:Bool) (p:Option Addr) (n c:Nat) (t:Bool) (q:Option Addr) (m d:Nat) (x:Rat) (s':Bool) (p':Option Addr) (n' c':Nat) (t':Bool) (q':Option Addr) (m' d':Nat) (y:Rat) (w:World) (h:Qs w s p n c t q m d x) (h':Qs w s' p' n' c' t' q' m' d' y) (hx:hq x≤1000000000) (hy:hq y≤1000000000):
  Calls Tryz.prog 27 #[.agg #[.bool s,.slice p n c,.bool t,.slice q m d],.agg #[.bool s',.slice p' n' c',.bool t',.slice q' m' d']] w fun e w'=>RetQ w' e (x*y)∧Below w.heap.size w w':=by
 have h1:=c_qMul s p n c x.num t q m d x.den s' p' n' c' y.num t' q' m' d' y.den w h.1.raw h.2.raw h'.1.raw h'.2.raw (by have:=h.sizes;omega) (by have:=h.sizes;omega) (by have:=h'.sizes;omega) (by have:=h'.sizes;omega)
 rw[rat_self,rat_self]at h1
 exact h1
theorem c_qAddQ (s:Bool) (p:Option Addr) (n c:Nat) (t:Bool) (q:Option Addr) (m d:Nat) (x:Rat) (s':Bool) (p':Option Addr) (n' c':Nat) (t':Bool) (q':Option Addr) (m' d':Nat) (y:Rat) (w:World) (h:Qs w s p n c t q m d x) (h':Qs w s' p' n' c' t' q' m' d' y) (hx:hq x≤1000000000) (hy:hq y≤1000000000):
  Calls Tryz.prog 48 #[.agg #[.bool s,.slice p n c,.bool t,.slice q m d],.agg #[.bool s',.slice p' n' c',.bool t',.slice q' m' d']] w fun e w'=>RetQ w' e (x+y)∧Below w.heap.size w w':=by
 have h1:=c_qAdd s p n c x.num t q m d x.den s' p' n' c' y.num t' q' m' d' y.den w h.1.raw h.2.raw h'.1.raw h'.2.raw (by have:=h.sizes;omega) (by have:=h.sizes;omega) (by have:=h'.sizes;omega) (by have:=h'.sizes;omega) (den_ne x) (den_ne y)
 rw[rat_self,rat_self]at h1
 exact h1
def QAt (L:Nat→Rat) (k:Nat) (r:Rat) (w:World) (g N:Nat):Prop:=QRow (fun j=>IsQ (if j=k then r else L j)) w g N (k+1)
theorem QAt.keep {L:Nat→Rat} {k:Nat} {r:Rat} {w w':World} {g N:Nat} (h:QAt L k r w g N) (hb:Below w.heap.size w w'):QAt L k r w' g N:=QRow.keep (fun _=>IsQ.solid _) h hb
theorem QAt.set {L:Nat→Rat} {k:Nat} {r:Rat} {w:World} {g N:Nat} (h:QRow (fun j=>IsQ (L j)) w g N k) (hk:k<N) {s:Bool} {p:Option Addr} {n c:Nat} {t:Bool} {q:Option Addr} {m d:Nat} (hq:Qs w s p n c t q m d r):
  QAt L k r ((((w.setCell ⟨g,k*4,none⟩ (.bool s)).setCell ⟨g,k*4+1,none⟩ (.slice p n c)).setCell ⟨g,k*4+2,none⟩ (.bool t)).setCell ⟨g,k*4+3,none⟩ (.slice q m d)) g N:=
 QRow.set (fun _=>IsQ.solid _) h k hk _ (IsQ.solid _) (fun i hi hne=>⟨by omega,by rw[if_neg hne]⟩) (show IsQ (if k=k then r else L k) w s p n c t q m d by rw[if_pos rfl];exact hq)
theorem QAt.upd {L:Nat→Rat} {k:Nat} {r r':Rat} {w:World} {g N:Nat} (h:QAt L k r' w g N) (hk:k<N) {s:Bool} {p:Option Addr} {n c:Nat} {t:Bool} {q:Option Addr} {m d:Nat} (hq:Qs w s p n c t q m d r):
  QAt L k r ((((w.setCell ⟨g,k*4,none⟩ (.bool s)).setCell ⟨g,k*4+1,none⟩ (.slice p n c)).setCell ⟨g,k*4+2,none⟩ (.bool t)).setCell ⟨g,k*4+3,none⟩ (.slice q m d)) g N:=
 QRow.set (fun _=>IsQ.solid _) h k hk _ (IsQ.solid _) (fun i hi hne=>⟨hi,by rw[if_neg hne,if_neg hne]⟩) (show IsQ (if k=k then r else L k) w s p n c t q m d by rw[if_pos rfl];exact hq)
theorem QAt.done {L:Nat→Rat} {k:Nat} {r:Rat} {w:World} {g N:Nat} (h:QAt L k r w g N) (e:r=L k):QRow (fun j=>IsQ (L j)) w g N (k+1):=
 QRow.congr h (fun j _=>by
  by_cases hj:j=k
  ·rw[if_pos hj,hj,e]
  ·rw[if_neg hj])
theorem QAt.elem {L:Nat→Rat} {k:Nat} {r:Rat} {w:World} {g N:Nat} (h:QAt L k r w g N):QE (IsQ r) w g (k*4):=by
 have h1:=QRow.val h k (Nat.lt_succ_self k)
 simpa using h1
theorem cellOf_eq {w:World} {a:Addr} {v:Value} (h:w.cell? a=some v):cellOf w a=v:=by unfold cellOf;rw[h];rfl
def Cells4 (w:World) (g i:Nat) (s:Bool) (p:Option Addr) (n c:Nat) (t:Bool) (q:Option Addr) (m d:Nat):Prop:=
 w.cell? ⟨g,i,none⟩=some (.bool s)∧w.cell? ⟨g,i+1,none⟩=some (.slice p n c)∧w.cell? ⟨g,i+2,none⟩=some (.bool t)∧w.cell? ⟨g,i+3,none⟩=some (.slice q m d)
theorem Cells4.keep {w w':World} {g i:Nat} {s:Bool} {p:Option Addr} {n c:Nat} {t:Bool} {q:Option Addr} {m d:Nat} (h:Cells4 w g i s p n c t q m d) (hb:Below w.heap.size w w'):Cells4 w' g i s p n c t q m d:=by
 have hk:∀ j v,w.cell? ⟨g,j,none⟩=some v→w'.cell? ⟨g,j,none⟩=some v:=fun j v e=>(hb.cell (p:=⟨g,j,none⟩) (World.block_lt_of_cell? w ⟨g,j,none⟩ e)).trans e
 exact⟨hk _ _ h.1,hk _ _ h.2.1,hk _ _ h.2.2.1,hk _ _ h.2.2.2⟩
theorem below_put4g {g:Nat} {w w':World} (h:Below g w w') {i j k l:Nat} {v0 v1 v2 v3:Value}:Below g w ((((w'.setCell ⟨g,i,none⟩ v0).setCell ⟨g,j,none⟩ v1).setCell ⟨g,k,none⟩ v2).setCell ⟨g,l,none⟩ v3):=
 (((h.setCell (p:=⟨g,i,none⟩) (Nat.le_refl _) v0).setCell (p:=⟨g,j,none⟩) (Nat.le_refl _) v1).setCell (p:=⟨g,k,none⟩) (Nat.le_refl _) v2).setCell (p:=⟨g,l,none⟩) (Nat.le_refl _) v3
theorem Below.mono2 {B:Nat} {w w':World} (e:w.heap.size=B) (h:Below B w w'):Below w.heap.size w w':=by rw[e];exact h
theorem madeQ {n i:Nat} {v:Value} (h:(madeCells #[.bool false,.slice none 0 0,.bool false,.slice none 0 0] n)[i]?=some v):NotInt v:=by
 unfold madeCells at h
 simp only[Array.getElem?_map,Array.getElem?_range]at h
 split at h
 ·simp only[Option.map_some]at h
  injection h with h
  rw[← h]
  have h2:=Nat.mod_lt i (show 0<4 by decide)
  have h3:i % 4=0∨i % 4=1∨i % 4=2∨i % 4=3:=by omega
  show NotInt ((#[.bool false,.slice none 0 0,.bool false,.slice none 0 0]:Array Value)[i % 4]!)
  rcases h3 with h3|h3|h3|h3 <;> rw[h3] <;> first|exact NotInt.bool _|exact NotInt.slice _ _ _
 ·cases h
theorem QRow.made (F:Nat→FP) (w:World) (n:Nat):QRow F (w.alloc (.cells (madeCells #[.bool false,.slice none 0 0,.bool false,.slice none 0 0] (n*4)) 67)) w.heap.size n 0:=by
 have hb:=Blk.new w 67 (madeCells #[.bool false,.slice none 0 0,.bool false,.slice none 0 0] (n*4))
 refine⟨Sts.of hb ?_,fun i _=>hb.free_ i,fun i hi=>?_,fun j hj=>absurd hj (Nat.not_lt_zero _)⟩
 ·intro v hv
  obtain⟨i,hi⟩:=Array.getElem?_of_mem hv
  exact madeQ hi
 ·rw[hb.cell_ i,Array.getElem?_eq_getElem (by rw[size_madeCells];exact hi)];rfl
theorem makeQ (n:Nat) (h:n≤1000000) (w:World):
  (Instr.makeSlice 22 (.int .i64 (n:Int)) (.int .i64 (n:Int))).run Tryz.prog w=.ok (.slice (some ⟨w.heap.size,0,none⟩) n n) (w.alloc (.cells (madeCells #[.bool false,.slice none 0 0,.bool false,.slice none 0 0] (n*4)) 67)):=by
 obtain⟨i,hi,hz0,hz1,hz2⟩:=info_parts ratInfo
 have hr:=run_make (P:=Tryz.prog) w 22 67 i _ Tryz.underlying22 hi hz0 .i64 .i64 n n (by omega) (Int.le_refl _) (by rw[hz2];omega) (by omega)
 rw[Int.toNat_natCast,hz1]at hr
 exact hr
def linQ (a b:Int) (f:Nat→Rat) (n j:Nat):Rat:=(if 0<j then(a:Rat)*f (j - 1)else 0)+(if j<n then(b:Rat)*f j else 0)
theorem c_linear (v:Value) (n:Nat) (f:Nat→Rat) (a b:Int) (w:World) (h:QL (fun j=>IsQ (f j)) w v n) (h0:0<n) (hn:n≤1000) (ha:-1073741824≤a) (ha':a≤1073741824) (hb:-1073741824≤b) (hb':b≤1073741824) (hf:∀ j,j<n→hq (f j)≤100000000):
  Calls Tryz.prog 62 #[v,.int .i64 a,.int .i64 b] w fun e w'=>(∃ g,e=.returned (.slice (some ⟨g,0,none⟩) ((n+1:Nat)) ((n+1:Nat)))∧w.heap.size≤g∧QRow (fun j=>IsQ (linQ a b f n j)) w' g (n+1) (n+1))∧Below w.heap.size w w':=by
 obtain⟨g1,o1,l1,rfl,hg1,r1⟩:=h.resolve_left (fun h=>by omega)
 have R1:=Kh r1
 have HF:=Kh hf
 have HA:=Kh (fun w1=>c_qOf a w1 (by omega) (by omega))
 have HBo:=Kh (fun w1=>c_qOf b w1 (by omega) (by omega))
 have HSA:=Kh (show hq (a:Rat)≤10 by rw[hq_int];have:=nd_le.2 (show a.natAbs<4294967296 ^ 2 by omega);omega)
 have HSB:=Kh (show hq (b:Rat)≤10 by rw[hq_int];have:=nd_le.2 (show b.natAbs<4294967296 ^ 2 by omega);omega)
 obtain⟨N,hN⟩:∃ N,n+1=N:=⟨_,rfl⟩
 have hNi:(n:Int)+1=(N:Nat):=by omega
 have hmk:=makeQ N (by omega)
 rw[hN]
 clear h r1 hf ha ha' hb hb'
 go_enter Tryz.func62,Tryz.ntmps62
 go_wp2_with fail
 refine(HA.out w).mono ?_
 rintro e w1 ⟨⟨s1,p1,n1,c1,t1,q1,m1,d1,rfl,hq1⟩,hb1⟩
 have HQ1:=Kh hq1
 have HB1:=Kh hb1
 clear hq1 hb1 HA
 go_wp2_with fail
 refine(HBo.out w1).mono ?_
 rintro e w2 ⟨⟨s2,p2,n2,c2,t2,q2,m2,d2,rfl,hq2⟩,hb2⟩
 have HQ2:=Kh (And.intro (HQ1.out.keep hb2) hq2)
 have HB2:=bt HB1 hb2
 clear hq2 hb2 HBo HB1 HQ1
 go_upto_region 3 with(fail)
 obtain⟨wm,hwm⟩:∃ wm,(w2.alloc (.cells #[.bool s1,.slice p1 n1 c1,.bool t1,.slice q1 m1 d1] 67)).alloc (.cells #[.bool s2,.slice p2 n2 c2,.bool t2,.slice q2 m2 d2] 67)=wm:=⟨_,rfl⟩
 obtain⟨X0,X1,hbm⟩:=box2 w2 #[.bool s1,.slice p1 n1 c1,.bool t1,.slice q1 m1 d1] 67 #[.bool s2,.slice p2 n2 c2,.bool t2,.slice q2 m2 d2] 67
 rw[hwm]at X0 X1 hbm
 have hsm:wm.heap.size=w2.heap.size+1+1:=by rw[← hwm];simp
 have HRM:=Kh (QRow.made (fun j=>IsQ (linQ a b f n j)) wm N)
 obtain⟨wn,hwn⟩:∃ wn,wm.alloc (.cells (madeCells #[.bool false,.slice none 0 0,.bool false,.slice none 0 0] (N*4)) 67)=wn:=⟨_,rfl⟩
 have HBN:=Kh (show Below wm.heap.size wm wn from hwn▸(Below.refl _ _).alloc (Nat.le_refl _) _)
 rw[hwn]at HRM
 rw[hwm,hwn]
 have hbw:=HB2.out.trans (hbm.mono HB2.out.size)
 have HW:=Kh hbw
 have HQX:=Kh (HQ2.out.1.keep hbm)
 have HQY:=Kh (HQ2.out.2.keep hbm)
 have HG1:=Kh (Nat.lt_of_lt_of_le hg1 hbw.size)
 have HR:=Kh (fun j (hj:j<n)=>QE.keep (IsQ.solid _) (R1.out j hj) hbw)
 obtain⟨gx,hgx⟩:∃ gx,w2.heap.size=gx:=⟨_,rfl⟩
 obtain⟨gy,hgy⟩:∃ gy,gx+1=gy:=⟨_,rfl⟩
 obtain⟨g,hg⟩:∃ g,gy+1=g:=⟨_,rfl⟩
 rw[hgx,hgy,hg]at hsm ⊢
 rw[hgx]at X0 X1
 rw[hgy]at X1
 rw[hsm]at HBN HRM HG1
 have HX0:=Kh X0
 have HX1:=Kh X1
 have hgl:w.heap.size≤g:=by have:=hbw.size;omega
 have hxl:gx<g:=by omega
 have hyl:gy<g:=by omega
 clear X0 X1 hbm hbw hwm hwn HQ2 HB2 hgx hgy hg hmk hg1 R1
 go_wp2
 go_loopw [21] (fun i wr=>∃ k:Nat,k≤N∧i=.int .i64 k∧QRow (fun j=>IsQ (linQ a b f n j)) wr g N k∧Below g wm wr) (fun i _=>N - (intOf i).toNat)
 case atStart=>exact⟨0,Nat.zero_le _,rfl,HRM.out,HBN.out⟩
 case round=>
  obtain⟨k,hk,rfl,hrow,hbr⟩:=hrel
  have HROW:=Kh hrow
  have HBR:=Kh hbr
  clear hrow hbr HBN HRM
  by_cases hlt:k<N
  ·go_upto_region 6 with(fail)
   go_cut []from 24 to 27 (fun wd=>QAt (linQ a b f n) k 0 wd g N∧Below g wm wd)
   case first=>
    go_wp2_with fail
    refine(c_qOf 0 wr (by omega) (by omega)).mono ?_
    rintro e w3 ⟨⟨s3,p3,n3,c3,t3,q3,m3,d3,rfl,hq3⟩,hb3⟩
    have hr3:=QRow.keep (fun _=>IsQ.solid _) HROW.out hb3
    have HQA:=Kh (QAt.set hr3 hlt hq3)
    have HB3:=Kh (HBR.out.trans (hb3.mono (Nat.le_trans (Nat.le_of_eq hsm.symm) HBR.out.size)))
    obtain⟨u0,hu0⟩:=Option.isSome_iff_exists.1 (hr3.has (k*4) (by omega))
    obtain⟨u1,hu1⟩:=Option.isSome_iff_exists.1 (hr3.has (k*4+1) (by omega))
    obtain⟨u2,hu2⟩:=Option.isSome_iff_exists.1 (hr3.has (k*4+2) (by omega))
    obtain⟨u3,hu3⟩:=Option.isSome_iff_exists.1 (hr3.has (k*4+3) (by omega))
    have f0:=hr3.free (k*4) (by omega)
    have f1:=hr3.free (k*4+1) (by omega)
    have f2:=hr3.free (k*4+2) (by omega)
    have f3:=hr3.free (k*4+3) (by omega)
    clear hq3 hb3 hr3
    go_wp2
    go_meet
    exact⟨HQA.out,below_put4g HB3.out⟩
   case rest=>
    obtain⟨hqa,hb0⟩:=hcut
    obtain⟨we,rfl⟩:∃ we:World,we=wc:=⟨_,rfl⟩
    have HQA:=Kh hqa
    have HB0:=Kh hb0
    clear hqa hb0 HROW HBR
    go_upto_if 29 with(fail)
    obtain⟨u1,hu1⟩:∃ u1,(if 0<k then(a:Rat)*f (k - 1)else 0)=u1:=⟨_,rfl⟩
    have HU1:=Kh hu1
    clear hu1
    go_cut []from 29 to 39 (fun wd=>QAt (linQ a b f n) k u1 wd g N∧Below g wm wd)
    case first=>
     by_cases hk0:0<k
     ·obtain⟨k1,hk1⟩:∃ k1,k=k1+1:=⟨k - 1,by omega⟩
      have HU:=Kh (show(a:Rat)*f k1=u1 by rw[← HU1.out,if_pos hk0,hk1,Nat.add_sub_cancel])
      have hb0:=HB0.out
      have hbm:=Below.mono2 hsm hb0
      obtain⟨s',p',i1,c',t',q',m',d',a0,a1,a2,a3,hx⟩:=(HR.out k1 (by omega)).keep (IsQ.solid _) hbm
      have HP:=Kh (show Qs we s' p' i1 c' t' q' m' d' (f k1)from hx)
      have x0:=(HX0.out.below_ hb0 hxl).at_ 0 rfl
      have x1:=(HX0.out.below_ hb0 hxl).at_ 1 rfl
      have x2:=(HX0.out.below_ hb0 hxl).at_ 2 rfl
      have x3:=(HX0.out.below_ hb0 hxl).at_ 3 rfl
      have HX:=Kh (HQX.out.keep hbm)
      have HM1:=Kh (fun w1 (hb:Below we.heap.size we w1)=>c_qMulQ s1 p1 n1 c1 t1 q1 m1 d1 (a:Rat) s' p' i1 c' t' q' m' d' (f k1) w1 (HX.out.keep hb) (HP.out.keep hb) (by have:=HSA.out;omega) (by have:=HF.out k1 (by omega);omega))
      rw[HU.out]at HM1
      have hkk1:(k:Int) - 1=(k1:Nat):=by omega
      have hk1n:k1<n:=by omega
      have hk1i:(k1:Int)<(n:Int):=by omega
      have hkw:IntKind.i64.wrap (k1:Int)=(k1:Nat):=IntWalk.i64_in _ (by omega)
      have hk00:(0:Int)≤(k1:Int):=by omega
      have hg1:=HG1.out
      have hra:=HQA.out
      unfold QAt at hra
      clear hx hb0 hbm HX HP hk1 HU HU1
      go_upto_region 8 with(fail)
      have hS0:we.drew.cell? ⟨gx,0,none⟩=some (.bool s1)∧we.drew.cell? ⟨gx,1,none⟩=some (.slice p1 n1 c1)∧we.drew.cell? ⟨gx,2,none⟩=some (.bool t1)∧we.drew.cell? ⟨gx,3,none⟩=some (.slice q1 m1 d1)∧we.drew.cell? ⟨g1,o1+k1*4,none⟩=some (.bool s')∧we.drew.cell? ⟨g1,o1+k1*4+1,none⟩=some (.slice p' i1 c')∧we.drew.cell? ⟨g1,o1+k1*4+2,none⟩=some (.bool t')∧we.drew.cell? ⟨g1,o1+k1*4+3,none⟩=some (.slice q' m' d')∧we.drew.cell? ⟨g,k*4,none⟩=some (cellOf we.drew ⟨g,k*4,none⟩)∧we.drew.frozen? ⟨g,k*4,none⟩=false∧Sts we.drew (g)∧we.drew.cell? ⟨g,k*4+1,none⟩=some (cellOf we.drew ⟨g,k*4+1,none⟩)∧we.drew.frozen? ⟨g,k*4+1,none⟩=false∧Sts we.drew (g)∧we.drew.cell? ⟨g,k*4+2,none⟩=some (cellOf we.drew ⟨g,k*4+2,none⟩)∧we.drew.frozen? ⟨g,k*4+2,none⟩=false∧Sts we.drew (g)∧we.drew.cell? ⟨g,k*4+3,none⟩=some (cellOf we.drew ⟨g,k*4+3,none⟩)∧we.drew.frozen? ⟨g,k*4+3,none⟩=false∧Sts we.drew (g)∧Below g wm we.drew∧g≤we.drew.heap.size:=S8_4_next (Below.refl _ we).drew ⟨x0,x1,x2,x3,a0,a1,a2,a3,cellOf_some (hra.has _ (by omega)),hra.free _ (by omega),hra.sts,cellOf_some (hra.has _ (by omega)),hra.free _ (by omega),hra.sts,cellOf_some (hra.has _ (by omega)),hra.free _ (by omega),hra.sts,cellOf_some (hra.has _ (by omega)),hra.free _ (by omega),hra.sts,HB0.out,Nat.le_trans (Nat.le_of_eq hsm.symm) (Below.size HB0.out)⟩
      clear x0 x1 x2 x3 a0 a1 a2 a3 hra
      have M1:True:=trivial
      go_region_held3 (fun w1=>w1.cell? ⟨gx,0,none⟩=some (.bool s1)∧w1.cell? ⟨gx,1,none⟩=some (.slice p1 n1 c1)∧w1.cell? ⟨gx,2,none⟩=some (.bool t1)∧w1.cell? ⟨gx,3,none⟩=some (.slice q1 m1 d1)∧w1.cell? ⟨g1,o1+k1*4,none⟩=some (.bool s')∧w1.cell? ⟨g1,o1+k1*4+1,none⟩=some (.slice p' i1 c')∧w1.cell? ⟨g1,o1+k1*4+2,none⟩=some (.bool t')∧w1.cell? ⟨g1,o1+k1*4+3,none⟩=some (.slice q' m' d')∧w1.cell? ⟨g,k*4,none⟩=some (cellOf w1 ⟨g,k*4,none⟩)∧w1.frozen? ⟨g,k*4,none⟩=false∧Sts w1 (g)∧w1.cell? ⟨g,k*4+1,none⟩=some (cellOf w1 ⟨g,k*4+1,none⟩)∧w1.frozen? ⟨g,k*4+1,none⟩=false∧Sts w1 (g)∧w1.cell? ⟨g,k*4+2,none⟩=some (cellOf w1 ⟨g,k*4+2,none⟩)∧w1.frozen? ⟨g,k*4+2,none⟩=false∧Sts w1 (g)∧w1.cell? ⟨g,k*4+3,none⟩=some (cellOf w1 ⟨g,k*4+3,none⟩)∧w1.frozen? ⟨g,k*4+3,none⟩=false∧Sts w1 (g)∧Below g wm w1∧g≤w1.heap.size)
       (first|with_reducible exact hS0|with_reducible assumption |(refine S8_4_next (by with_reducible assumption) ?_;assumption) |(refine S8_4_put ?_ ?_ ?_ ?_ ?_ ?_ ?_ ?_ ?_ ?_ ?_ ?_ ?_ ?_ ?_ ?_ ?_ ?_ ?_ ?_ ?_ ?_ ?_ ?_ ?_ ?_ ?_ ?_ ?_ ?_ ?_ ?_ ?_ ?_ ?_ ?_ ?_ ?_ ?_ ?_ ?_ <;> first|assumption|exact NotInt.bool _|exact NotInt.slice _ _ _ |(dsimp only;omega) |(simp;done)))
       (first
        |(go_at_call 27;refine(HM1.out _ (by first|exact(Below.refl _ _).drew|exact Below.refl _ _)).mono ?_;rintro e w2 ⟨⟨s3,p3,n3,c3,t3,q3,m3,d3,rfl,hz3⟩,hb3⟩;have hbe:Below we.heap.size we w2:=(by first|exact(Below.refl _ we).drew.trans hb3|exact hb3);have HQA3:=Kh ((HQA.out.keep hbe).upd hlt hz3);have HBF:=Kh (HB0.out.trans (hbe.mono (Nat.le_trans (Nat.le_of_eq hsm.symm) HB0.out.size)));clear hz3 hbe))
      all_goals go_wp2
      all_goals go_meet
      all_goals exact⟨HQA3.out,below_put4g HBF.out⟩
     ·have HU:=Kh (show 0=u1 by rw[← HU1.out,if_neg hk0])
      obtain rfl:k=0:=by omega
      go_wp2
      go_meet
      exact⟨HU.out▸HQA.out,HB0.out⟩
    case rest=>
     obtain⟨hqa,hb0⟩:=hcut
     clear HQA HB0
     obtain⟨we,rfl⟩:∃ we:World,we=wc:=⟨_,rfl⟩
     have HQA:=Kh hqa
     have HB0:=Kh hb0
     clear hqa hb0
     by_cases hkn:k<n
     ·have HU:=Kh (show u1+(b:Rat)*f k=linQ a b f n k by unfold linQ;rw[HU1.out,if_pos hkn])
      have HSU:=Kh (show hq u1≤200000000 by
       rw[← HU1.out]
       split
       ·rename_i hk0
        have h1:=hq_mul (a:Rat) (f (k - 1))
        have h2:=HSA.out
        have h3:=HF.out (k - 1) (by omega)
        omega
       ·simp[hq,nd_zero,nd_one'])
      have hb0:=HB0.out
      have hbm:=Below.mono2 hsm hb0
      obtain⟨s',p',i1,c',t',q',m',d',a0,a1,a2,a3,hx⟩:=(HR.out k hkn).keep (IsQ.solid _) hbm
      have HP:=Kh (show Qs we s' p' i1 c' t' q' m' d' (f k)from hx)
      have x0:=(HX1.out.below_ hb0 hyl).at_ 0 rfl
      have x1:=(HX1.out.below_ hb0 hyl).at_ 1 rfl
      have x2:=(HX1.out.below_ hb0 hyl).at_ 2 rfl
      have x3:=(HX1.out.below_ hb0 hyl).at_ 3 rfl
      have HX:=Kh (HQY.out.keep hbm)
      have HM1:=Kh (fun w1 (hb:Below we.heap.size we w1)=>c_qMulQ s2 p2 n2 c2 t2 q2 m2 d2 (b:Rat) s' p' i1 c' t' q' m' d' (f k) w1 (HX.out.keep hb) (HP.out.keep hb) (by have:=HSB.out;omega) (by have:=HF.out k hkn;omega))
      obtain⟨s5,p5,n5,c5,t5,q5,m5,d5,e0,e1,e2,e3,hy⟩:=HQA.out.elem
      have HY:=Kh (show Qs we s5 p5 n5 c5 t5 q5 m5 d5 u1 from hy)
      have HEE:=Kh (show Cells4 we g (k*4) s5 p5 n5 c5 t5 q5 m5 d5 from⟨e0,e1,e2,e3⟩)
      have HSM:=Kh (show hq ((b:Rat)*f k)≤200000000 by
       have h1:=hq_mul (b:Rat) (f k)
       have h2:=HSB.out
       have h3:=HF.out k hkn
       omega)
      have hkni:(k:Int)<(n:Int):=by omega
      have hg1:=HG1.out
      have hra:=HQA.out
      unfold QAt at hra
      clear hx hb0 hbm HX HP HU1 hy e0 e1 e2 e3
      go_upto_region 10 with(fail)
      have hS0:we.drew.cell? ⟨gy,0,none⟩=some (.bool s2)∧we.drew.cell? ⟨gy,1,none⟩=some (.slice p2 n2 c2)∧we.drew.cell? ⟨gy,2,none⟩=some (.bool t2)∧we.drew.cell? ⟨gy,3,none⟩=some (.slice q2 m2 d2)∧we.drew.cell? ⟨g1,o1+k*4,none⟩=some (.bool s')∧we.drew.cell? ⟨g1,o1+k*4+1,none⟩=some (.slice p' i1 c')∧we.drew.cell? ⟨g1,o1+k*4+2,none⟩=some (.bool t')∧we.drew.cell? ⟨g1,o1+k*4+3,none⟩=some (.slice q' m' d')∧we.drew.cell? ⟨g,k*4,none⟩=some (cellOf we.drew ⟨g,k*4,none⟩)∧we.drew.frozen? ⟨g,k*4,none⟩=false∧Sts we.drew (g)∧we.drew.cell? ⟨g,k*4+1,none⟩=some (cellOf we.drew ⟨g,k*4+1,none⟩)∧we.drew.frozen? ⟨g,k*4+1,none⟩=false∧Sts we.drew (g)∧we.drew.cell? ⟨g,k*4+2,none⟩=some (cellOf we.drew ⟨g,k*4+2,none⟩)∧we.drew.frozen? ⟨g,k*4+2,none⟩=false∧Sts we.drew (g)∧we.drew.cell? ⟨g,k*4+3,none⟩=some (cellOf we.drew ⟨g,k*4+3,none⟩)∧we.drew.frozen? ⟨g,k*4+3,none⟩=false∧Sts we.drew (g)∧Below g wm we.drew∧g≤we.drew.heap.size:=S8_4_next (Below.refl _ we).drew ⟨x0,x1,x2,x3,a0,a1,a2,a3,cellOf_some (hra.has _ (by omega)),hra.free _ (by omega),hra.sts,cellOf_some (hra.has _ (by omega)),hra.free _ (by omega),hra.sts,cellOf_some (hra.has _ (by omega)),hra.free _ (by omega),hra.sts,cellOf_some (hra.has _ (by omega)),hra.free _ (by omega),hra.sts,HB0.out,Nat.le_trans (Nat.le_of_eq hsm.symm) (Below.size HB0.out)⟩
      clear x0 x1 x2 x3 a0 a1 a2 a3 hra
      have M1:True:=trivial
      refine wp_region_held_drew (S:=(fun w1=>w1.cell? ⟨gy,0,none⟩=some (.bool s2)∧w1.cell? ⟨gy,1,none⟩=some (.slice p2 n2 c2)∧w1.cell? ⟨gy,2,none⟩=some (.bool t2)∧w1.cell? ⟨gy,3,none⟩=some (.slice q2 m2 d2)∧w1.cell? ⟨g1,o1+k*4,none⟩=some (.bool s')∧w1.cell? ⟨g1,o1+k*4+1,none⟩=some (.slice p' i1 c')∧w1.cell? ⟨g1,o1+k*4+2,none⟩=some (.bool t')∧w1.cell? ⟨g1,o1+k*4+3,none⟩=some (.slice q' m' d')∧w1.cell? ⟨g,k*4,none⟩=some (cellOf w1 ⟨g,k*4,none⟩)∧w1.frozen? ⟨g,k*4,none⟩=false∧Sts w1 (g)∧w1.cell? ⟨g,k*4+1,none⟩=some (cellOf w1 ⟨g,k*4+1,none⟩)∧w1.frozen? ⟨g,k*4+1,none⟩=false∧Sts w1 (g)∧w1.cell? ⟨g,k*4+2,none⟩=some (cellOf w1 ⟨g,k*4+2,none⟩)∧w1.frozen? ⟨g,k*4+2,none⟩=false∧Sts w1 (g)∧w1.cell? ⟨g,k*4+3,none⟩=some (cellOf w1 ⟨g,k*4+3,none⟩)∧w1.frozen? ⟨g,k*4+3,none⟩=false∧Sts w1 (g)∧Below g wm w1∧g≤w1.heap.size)) (by kernel_rfl) ?_ (fun hHeld0=>?_)
      focus((try dsimp only);with_reducible exact hS0)
      refine tkH 0 ?_
      refine tkH 1 ?_
      refine tkH 2 ?_
      refine tkH 3 ?_
      refine tkH 4 ?_
      refine tkH 6 ?_
      refine tkH 7 ?_
      refine tkH 8 ?_
      refine tkH 9 ?_
      refine tkH 10 ?_
      refine rdH [5,11] ?_
      refine AllReadyH.cons rfl (fun K hK=>?_) ?_
      focus(go_simp;refine hK.out _ _ ?_ (fun hHeld1=>?_))
      focus((try dsimp only);(first|with_reducible assumption |(refine S8_4_next (by with_reducible assumption) ?_;assumption)))
      focus(clear hK K hHeld0;(try simp only[Act.put,lsa,lsz,lss]))
      refine rdH [11] ?_
      refine AllReadyH.cons rfl (fun K hK=>?_) ?_
      focus(go_simp;(go_at_call 27;refine(HM1.out _ (by first|exact(Below.refl _ _).drew|exact Below.refl _ _)).mono ?_;rintro e w2 ⟨⟨s3,p3,n3,c3,t3,q3,m3,d3,rfl,hz3⟩,hb3⟩;have HB3:=Kh (show Below we.heap.size we w2 from(by first|exact(Below.refl _ we).drew.trans hb3|exact hb3));have HZ3:=Kh hz3;have HEE2:=Kh (HEE.out.keep HB3.out);have HEE1:=Kh (show Cells4 we.drew g (k*4) s5 p5 n5 c5 t5 q5 m5 d5 from HEE.out);clear hz3);(first|done|with_reducible refine hK.out _ _ ?_ (fun hHeld2=>?_) |(go_wp2_with fail;with_reducible refine hK.out _ _ ?_ (fun hHeld2=>?_))))
      focus((try dsimp only);(first|with_reducible assumption |(refine S8_4_next (by with_reducible assumption) ?_;assumption)))
      focus(clear hK K hHeld1;(try simp only[Act.put,lsa,lsz,lss]))
      refine rdH [12] ?_
      refine AllReadyH.cons rfl (fun K hK=>?_) ?_
      focus(go_simp;(go_at_call 48;(first|rw[cellOf_eq HEE2.out.1,cellOf_eq HEE2.out.2.1,cellOf_eq HEE2.out.2.2.1,cellOf_eq HEE2.out.2.2.2]|rw[cellOf_eq HEE1.out.1,cellOf_eq HEE1.out.2.1,cellOf_eq HEE1.out.2.2.1,cellOf_eq HEE1.out.2.2.2]);refine(c_qAddQ s5 p5 n5 c5 t5 q5 m5 d5 u1 s3 p3 n3 c3 t3 q3 m3 d3 ((b:Rat)*f k) _ (HY.out.keep HB3.out) HZ3.out (by have:=HSU.out;omega) (by have:=HSM.out;omega)).mono ?_;rintro e w4 ⟨⟨s6,p6,n6,c6,t6,q6,m6,d6,rfl,hz6⟩,hb6⟩;have hbe:Below we.heap.size we w4:=HB3.out.trans (hb6.mono HB3.out.size);have HQA3:=Kh ((HQA.out.keep hbe).upd hlt (HU.out▸hz6));have HBF:=Kh (HB0.out.trans (hbe.mono (Nat.le_trans (Nat.le_of_eq hsm.symm) HB0.out.size)));clear hz6 hbe hb3);(first|done|with_reducible refine hK.out _ _ ?_ (fun hHeld3=>?_) |(go_wp2_with fail;with_reducible refine hK.out _ _ ?_ (fun hHeld3=>?_))))
      focus((try dsimp only);(first|with_reducible assumption |(refine S8_4_next (by with_reducible assumption) ?_;assumption)))
      focus(clear hK K hHeld2;(try simp only[Act.put,lsa,lsz,lss]))
      refine tkH 13 ?_
      refine rdH [14] ?_
      refine AllReadyH.cons rfl (fun K hK=>?_) ?_
      focus(go_simp;refine hK.out _ _ ?_ (fun hHeld4=>?_))
      focus((try dsimp only);(refine S8_4_put ?_ ?_ ?_ ?_ ?_ ?_ ?_ ?_ ?_ ?_ ?_ ?_ ?_ ?_ ?_ ?_ ?_ ?_ ?_ ?_ ?_ ?_ ?_ ?_ ?_ ?_ ?_ ?_ ?_ ?_ ?_ ?_ ?_ ?_ ?_ ?_ ?_ ?_ ?_ ?_ ?_ <;> first|assumption|exact NotInt.bool _|exact NotInt.slice _ _ _ |(dsimp only;omega) |(simp;done)))
      focus(clear hK K hHeld3;(try simp only[Act.put,lsa,lsz,lss]))
      focus(refine wpAnyH_done (by kernel_rfl) ?_ _)
      rotate_left
      exact AllReadyH.nil
      exact AllReadyH.nil
      exact AllReadyH.nil
      refine AllReadyH.cons rfl (fun K hK=>?_) ?_
      focus(go_simp;(go_at_call 27;refine(HM1.out _ (by first|exact(Below.refl _ _).drew|exact Below.refl _ _)).mono ?_;rintro e w2 ⟨⟨s3,p3,n3,c3,t3,q3,m3,d3,rfl,hz3⟩,hb3⟩;have HB3:=Kh (show Below we.heap.size we w2 from(by first|exact(Below.refl _ we).drew.trans hb3|exact hb3));have HZ3:=Kh hz3;have HEE2:=Kh (HEE.out.keep HB3.out);have HEE1:=Kh (show Cells4 we.drew g (k*4) s5 p5 n5 c5 t5 q5 m5 d5 from HEE.out);clear hz3);(first|done|with_reducible refine hK.out _ _ ?_ (fun hHeld1=>?_) |(go_wp2_with fail;with_reducible refine hK.out _ _ ?_ (fun hHeld1=>?_))))
      focus((try dsimp only);(first|with_reducible assumption |(refine S8_4_next (by with_reducible assumption) ?_;assumption)))
      focus(clear hK K hHeld0;(try simp only[Act.put,lsa,lsz,lss]))
      refine rdH [5] ?_
      refine AllReadyH.cons rfl (fun K hK=>?_) ?_
      focus(go_simp;refine hK.out _ _ ?_ (fun hHeld2=>?_))
      focus((try dsimp only);(first|with_reducible assumption |(refine S8_4_next (by with_reducible assumption) ?_;assumption)))
      focus(clear hK K hHeld1;(try simp only[Act.put,lsa,lsz,lss]))
      refine rdH [12] ?_
      refine AllReadyH.cons rfl (fun K hK=>?_) ?_
      focus(go_simp;(go_at_call 48;(first|rw[cellOf_eq HEE2.out.1,cellOf_eq HEE2.out.2.1,cellOf_eq HEE2.out.2.2.1,cellOf_eq HEE2.out.2.2.2]|rw[cellOf_eq HEE1.out.1,cellOf_eq HEE1.out.2.1,cellOf_eq HEE1.out.2.2.1,cellOf_eq HEE1.out.2.2.2]);refine(c_qAddQ s5 p5 n5 c5 t5 q5 m5 d5 u1 s3 p3 n3 c3 t3 q3 m3 d3 ((b:Rat)*f k) _ (HY.out.keep HB3.out) HZ3.out (by have:=HSU.out;omega) (by have:=HSM.out;omega)).mono ?_;rintro e w4 ⟨⟨s6,p6,n6,c6,t6,q6,m6,d6,rfl,hz6⟩,hb6⟩;have hbe:Below we.heap.size we w4:=HB3.out.trans (hb6.mono HB3.out.size);have HQA3:=Kh ((HQA.out.keep hbe).upd hlt (HU.out▸hz6));have HBF:=Kh (HB0.out.trans (hbe.mono (Nat.le_trans (Nat.le_of_eq hsm.symm) HB0.out.size)));clear hz6 hbe hb3);(first|done|with_reducible refine hK.out _ _ ?_ (fun hHeld3=>?_) |(go_wp2_with fail;with_reducible refine hK.out _ _ ?_ (fun hHeld3=>?_))))
      focus((try dsimp only);(first|with_reducible assumption |(refine S8_4_next (by with_reducible assumption) ?_;assumption)))
      focus(clear hK K hHeld2;(try simp only[Act.put,lsa,lsz,lss]))
      refine tkH 13 ?_
      refine rdH [14] ?_
      refine AllReadyH.cons rfl (fun K hK=>?_) ?_
      focus(go_simp;refine hK.out _ _ ?_ (fun hHeld4=>?_))
      focus((try dsimp only);(refine S8_4_put ?_ ?_ ?_ ?_ ?_ ?_ ?_ ?_ ?_ ?_ ?_ ?_ ?_ ?_ ?_ ?_ ?_ ?_ ?_ ?_ ?_ ?_ ?_ ?_ ?_ ?_ ?_ ?_ ?_ ?_ ?_ ?_ ?_ ?_ ?_ ?_ ?_ ?_ ?_ ?_ ?_ <;> first|assumption|exact NotInt.bool _|exact NotInt.slice _ _ _ |(dsimp only;omega) |(simp;done)))
      focus(clear hK K hHeld3;(try simp only[Act.put,lsa,lsz,lss]))
      focus(refine wpAnyH_done (by kernel_rfl) ?_ _)
      rotate_left
      exact AllReadyH.nil
      exact AllReadyH.nil
      exact AllReadyH.nil
      exact AllReadyH.nil
      all_goals have HQA4:=Kh (QAt.done HQA3.out rfl)
      all_goals clear HQA3 HQA HB0
      all_goals go_wp2
      all_goals go_roundw
      all_goals first
       | exact⟨k+1,by omega,by go_num,HQA4.out,below_put4g HBF.out⟩
       |(simp[intOf];omega)
     ·have HU:=Kh (show u1=linQ a b f n k by unfold linQ;rw[HU1.out,if_neg hkn,Rat.add_zero])
      have HQA4:=Kh (QAt.done HQA.out HU.out)
      go_wp2
      go_roundw
      case rel=>exact⟨k+1,by omega,by go_num,HQA4.out,HB0.out⟩
      case measure=>simp[intOf];omega
  ·obtain rfl:k=N:=by omega
   go_wp2
   go_ret
   exact⟨⟨g,rfl,hgl,HROW.out⟩,HW.out.trans (HBR.out.mono hgl)⟩
end Go.Proofs.YtijgdhijdfgpfaaGreatDoor
