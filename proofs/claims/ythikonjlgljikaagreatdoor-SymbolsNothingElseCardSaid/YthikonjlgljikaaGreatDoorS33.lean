/- Rows reduced in place, the pivots' rows first: plain part; and rows, each in a block of its own, in memory. -/
import Derived.Test.YthikonjlgljikaaGreatDoorS32
import Derived.Test.YthikonjlgljikaaGreatDoorS17
namespace Go.Proofs.YthikonjlgljikaaGreatDoor
open Go.RowKit
namespace Eli
def inF (F:Nat→Nat→Rat) (a m:Nat):(Nat→Rat)→Prop:=fun x=>∃ i,a≤i∧i<m∧∀ q,x q=F i q
structure GridAt (n B:Nat) (rows:Nat→Nat→Int) (m c t:Nat) (F:Nat→Nat→Rat) (ld:Nat→Bool) (L:Nat→Nat→Rat) (R:Nat→Nat→Int) (O:Nat→Nat→Rat):Prop where
 gj:GjAt n B rows m c ld L R O (inF F t m)
 len:(pvs ld c).length=t
 lo:∀ k p,(pvs ld c)[k]?=some p→∀ q,F k q=O p q
 le:t≤m
def swp {α:Type} (F:Nat→α) (a b:Nat):Nat→α:=fun i=>if i=a then F b else if i=b then F a else F i
def pvt (x:Nat→Rat) (c:Nat):Nat→Rat:=fun q=>1 / x c*x q
def putR (F:Nat→Nat→Rat) (t:Nat) (f:Nat→Rat):Nat→Nat→Rat:=fun i=>if i=t then f else F i
def clg (F:Nat→Nat→Rat) (pv:Nat→Rat) (c t k:Nat):Nat→Nat→Rat:=fun i=>if i<k∧i≠t then clr pv c (F i)else F i
section
variable {n B m c t:Nat} {rows:Nat→Nat→Int} {F:Nat→Nat→Rat} {ld:Nat→Bool} {L:Nat→Nat→Rat} {R:Nat→Nat→Int} {O:Nat→Nat→Rat}
theorem GridAt.start (hB:1≤B) (hF:∀ i q,F i q=(rows i q:Rat)):GridAt n B rows m 0 0 F (fun _=>false) unitQ unitZ (fun _ _=>0) where
 gj:=(GjAt.start hB).same_rest (fun a ⟨i,_,h2,e⟩=>⟨_,⟨i,h2,fun _=>rfl⟩,fun q=>by rw[e,hF]⟩) (fun a ⟨i,hi,e⟩=>⟨F i,⟨i,Nat.zero_le _,hi,fun _=>rfl⟩,fun q=>by rw[e,hF]⟩)
 len:=rfl
 lo:=fun k p h=>by simp[pvs]at h
 le:=Nat.zero_le _
theorem GridAt.skip (h:GridAt n B rows m c t F ld L R O) (hc:c<n) (h0:∀ i,t≤i→i<m→F i c=0):GridAt n B rows m (c+1) t F ld L R O:=by
 have e:pvs ld (c+1)=pvs ld c:=by rw[pvs_succ,if_neg (fun hl=>by have:=h.gj.lt c hl;omega)]
 exact⟨h.gj.skip hc (fun a ⟨i,h1,h2,e⟩=>by rw[e];exact h0 i h1 h2),by rw[e];exact h.len,by rw[e];exact h.lo,h.le⟩
theorem GridAt.zero (h:GridAt n B rows m c t F ld L R O) {i:Nat} (h1:t≤i) (h2:i<m) (q:Nat) (hq:q<c):F i q=0:=(h.gj.rest (F i) ⟨i,h1,h2,fun _=>rfl⟩).1 q hq
theorem GridAt.size (h:GridAt n B rows m c t F ld L R O) (hB:1≤B) (hb:∀ i q,(rows i q).natAbs≤B) (h0:∀ i q,n≤q→rows i q=0) {i:Nat} (hi:i<m) (q:Nat):hq (F i q)≤top n B:=by
 by_cases hit:i<t
 ·have hl:i<(pvs ld c).length:=by rw[h.len];exact hit
  have e:=List.getElem?_eq_getElem hl
  rw[h.lo i _ e]
  exact h.gj.out_size hB h0 (pvs_mem.1 (List.getElem_mem hl)).2 q
 ·exact h.gj.rest_size hb ⟨i,by omega,hi,fun _=>rfl⟩ q
theorem GridAt.psize (h:GridAt n B rows m c t F ld L R O) (hb:∀ i q,(rows i q).natAbs≤B) {s:Nat} (hs:t≤s) (hm:s<m) (h0:F s c≠0) (q:Nat):hq (pvt (F s) c q)≤top n B:=
 h.gj.pivot_size hb (a:=F s) ⟨s,hs,hm,fun _=>rfl⟩ h0 q
theorem GridAt.pivot (h:GridAt n B rows m c t F ld L R O) (hb:∀ i q,(rows i q).natAbs≤B) (hc:c<n) {s:Nat} (hs:t≤s) (hsm:s<m) (h0:F s c≠0):
  ∃ ld' L' R' O',GridAt n B rows m (c+1) (t+1) (clg (putR (swp F t s) t (pvt (F s) c)) (pvt (F s) c) c t m) ld' L' R' O'∧pvs ld' (c+1)=pvs ld c++[c]:=by
 obtain⟨F3,hF3⟩:∃ F3,F3=clg (putR (swp F t s) t (pvt (F s) c)) (pvt (F s) c) c t m:=⟨_,rfl⟩
 have k1:∀ i,i<m→i≠t→i≠s→F3 i=clr (pvt (F s) c) c (F i):=fun i h1 h2 h3=>by
  rw[hF3,clg,if_pos ⟨h1,h2⟩,putR,if_neg h2,swp,if_neg h2,if_neg h3]
 have k2:s≠t→F3 s=clr (pvt (F s) c) c (F t):=fun h2=>by
  rw[hF3,clg,if_pos ⟨hsm,h2⟩,putR,if_neg h2,swp,if_neg h2,if_pos rfl]
 have k3:F3 t=pvt (F s) c:=by rw[hF3,clg,if_neg (fun h=>h.2 rfl),putR,if_pos rfl]
 have hcl:∀ j,j<c→(ld j||decide (j=c))=ld j:=fun j hj=>by rw[decide_eq_false (by omega),Bool.or_false]
 rw[← hF3]
 obtain⟨L',R',hg⟩:=h.gj.pivot hb hc (r:=F s) ⟨s,hs,hsm,fun _=>rfl⟩ h0 (A':=inF F3 (t+1) m) (O':=fun p=>if p=c then pvt (F s) c else clr (pvt (F s) c) c (O p)) (ld':=fun j=>ld j||decide (j=c)) (fun _=>rfl)
  (fun a' ⟨i,h1,h2,e⟩=>by
   by_cases his:i=s
   ·subst his
    exact⟨F t,⟨t,Nat.le_refl _,by omega,fun _=>rfl⟩,fun q=>by rw[e,k2 (by omega),clr,pvt]⟩
   ·exact⟨F i,⟨i,by omega,h2,fun _=>rfl⟩,fun q=>by rw[e,k1 i h2 (by omega) his,clr,pvt]⟩)
  (fun a ⟨i,h1,h2,e⟩=>by
   by_cases his:i=s
   ·subst his;exact .inl e
   ·right
    by_cases hit:i=t
    ·exact⟨F3 s,⟨s,by omega,hsm,fun _=>rfl⟩,fun q=>by rw[k2 (by omega),clr,pvt,e,e,hit]⟩
    ·exact⟨F3 i,⟨i,by omega,h2,fun _=>rfl⟩,fun q=>by rw[k1 i h2 hit his,clr,pvt,e,e]⟩)
  (fun q=>by simp[pvt]) (fun p hp q=>by
   have:p≠c:=by have:=h.gj.lt p hp;omega
   simp only[if_neg this]
   rw[clr,pvt])
 have hps:pvs (fun j=>ld j||decide (j=c)) (c+1)=pvs ld c++[c]:=by
  rw[pvs_succ,if_pos (by simp),pvs_congr hcl]
 refine⟨_,L',R',_,⟨hg,by rw[hps,List.length_append,h.len];rfl,fun k p hk q=>?_,by omega⟩,hps⟩
 rw[hps]at hk
 by_cases hkt:k<t
 ·rw[List.getElem?_append_left (by rw[h.len];exact hkt)]at hk
  have:p≠c:=by have:=(pvs_mem.1 (List.mem_of_getElem? hk)).1;omega
  rw[k1 k (by omega) (by omega) (by omega)]
  simp only[if_neg this]
  rw[clr,clr,h.lo k p hk,h.lo k p hk]
 ·rw[List.getElem?_append_right (by rw[h.len];omega),h.len]at hk
  have hk0:k - t=0:=by
   rcases Nat.eq_zero_or_pos (k - t)with h1|h1
   ·exact h1
   ·rw[List.getElem?_eq_none (by rw[List.length_singleton];omega)]at hk;cases hk
  rw[hk0]at hk
  injection hk with hk
  obtain rfl:k=t:=by omega
  rw[k3,← hk];simp
theorem GridAt.rank (h:GridAt n B rows m c t F ld L R O) (hB:1≤B) (hb:∀ i q,(rows i q).natAbs≤B) (h0:∀ i q,n≤q→rows i q=0) (he:c=n∨t=m):t+(frs (elim n rows m) n).length=n:=by
 have he2:c=n∨∀ a,¬ inF F t m a:=he.imp id (fun e a ⟨i,h1,h2,_⟩=>by omega)
 have h1:=pvs_stop h.gj.le h.gj.lt
 have h2:pvs (ldOf (elim n rows m)) n=pvs ld n:=pvs_congr (fun j hj=>(h.gj.same_ld hB hb h0 he2 j hj).symm)
 have h3:t=(pvs (ldOf (elim n rows m)) n).length:=by rw[h2,h1,h.len]
 rw[h3]
 have h4:∀ k,(pvs (ldOf (elim n rows m)) k).length+(frs (elim n rows m) k).length=k:=by
  intro k
  induction k with
  | zero=>rfl
  | succ k ih=>
   rw[pvs_succ,frs_succ]
   by_cases e:elim n rows m k=[]
   ·rw[if_pos e,if_neg (by simp[ldOf,e]),List.length_append,List.length_singleton];omega
   ·rw[if_neg e,if_pos (by cases e2:elim n rows m k with|nil=>exact absurd e2 e|cons x l=>simp[ldOf,e2]),List.length_append,List.length_singleton];omega
 exact h4 n
end
end Eli
open Eli
structure GM (F:Nat→Nat→Rat) (m C:Nat) (w:World) (G:Nat) (gs:Nat→Nat) (B:Nat):Prop where
 stk:Stk SliceV w G
 free:∀ i,w.frozen? ⟨G,i,none⟩=false
 hB:B≤G
 at_:∀ i,i<m→w.cell? ⟨G,i,none⟩=some (.slice (some ⟨gs i,0,none⟩) C C)
 row:∀ i,i<m→QRow (fun q=>IsQ (F i q)) w (gs i) C C
 ge:∀ i,i<m→B≤gs i
 ne:∀ i,i<m→gs i≠G
 inj:∀ i j,i<m→j<m→gs i=gs j→i=j
section
variable {F:Nat→Nat→Rat} {m C:Nat} {w:World} {G:Nat} {gs:Nat→Nat} {B:Nat}
theorem GM.keep {w':World} (h:GM F m C w G gs B) (hb:Below w.heap.size w w'):GM F m C w' G gs B:=
 ⟨h.stk.next hb,fun i=>(World.frozen?_of_block (a:=⟨G,i,none⟩) (hb.block G h.stk.1)).trans (h.free i),h.hB,fun i hi=>cell_next hb (h.at_ i hi),fun i hi=>(h.row i hi).keep (fun _=>IsQ.solid _) hb,h.ge,h.ne,h.inj⟩
theorem GM.congr {F':Nat→Nat→Rat} (h:GM F m C w G gs B) (e:∀ i q,i<m→q<C→F' i q=F i q):GM F' m C w G gs B:=
 ⟨h.stk,h.free,h.hB,h.at_,fun i hi=>(h.row i hi).congr (fun q hq=>by rw[e i q hi hq]),h.ge,h.ne,h.inj⟩
theorem GM.elem (h:GM F m C w G gs B) {i q:Nat} (hi:i<m) (hq:q<C):QE (IsQ (F i q)) w (gs i) (q*4):=(h.row i hi).val q hq
theorem GM.put {w':World} (h:GM F m C w G gs B) {i:Nat} (hi:i<m) {f:Nat→Rat} (hr:QRow (fun q=>IsQ (f q)) w' (gs i) C C) (hg:w.grownBy w' (some (gs i))) (h32:I32 w w'):GM (putR F i f) m C w' G gs B:=by
 have hG:(some G:Option Nat)≠some (gs i):=fun e=>h.ne i hi (by injection e with e;exact e.symm)
 have hbk:w'.heap[G]?=w.heap[G]?:=hg.block G h.stk.1 hG
 refine⟨⟨Nat.lt_of_lt_of_le h.stk.1 hg.size,fun k v hv=>h.stk.2 k v ((World.cell?_of_block (a:=⟨G,k,none⟩) hbk).symm.trans hv)⟩,fun k=>(World.frozen?_of_block (a:=⟨G,k,none⟩) hbk).trans (h.free k),h.hB,fun k hk=>hg.cell (h.at_ k hk) hG,fun k hk=>?_,h.ge,h.ne,h.inj⟩
 by_cases e:k=i
 ·subst e
  simp only[putR,if_pos]
  exact hr
 ·simp only[putR,if_neg e]
  exact(h.row k hk).i32 (fun _=>IsQ.solid _) h32 hg (fun e2=>e (h.inj k i hk hi e2))
theorem GM.at_slice (h:GM F m C w G gs B) {i:Nat} (_hi:i<m) (a:Nat):I32 w (w.setCell ⟨G,a,none⟩ (.slice (some ⟨gs i,0,none⟩) C C)):=I32.putU (h.stk.imp fun _=>SliceV.notU32) a _
theorem GM.swap (h:GM F m C w G gs B) {a b:Nat} (ha:a<m) (hb:b<m) (hab:a≠b):
  GM (swp F a b) m C ((w.setCell ⟨G,a,none⟩ (.slice (some ⟨gs b,0,none⟩) C C)).setCell ⟨G,b,none⟩ (.slice (some ⟨gs a,0,none⟩) C C)) G (swp gs a b) B ∧
  I32 w ((w.setCell ⟨G,a,none⟩ (.slice (some ⟨gs b,0,none⟩) C C)).setCell ⟨G,b,none⟩ (.slice (some ⟨gs a,0,none⟩) C C)):=by
 have s1:=stk_put h.stk ⟨G,a,none⟩ (.slice (some ⟨gs b,0,none⟩) C C) ⟨_,_,_,rfl⟩
 have h32:=(h.at_slice hb a).trans (I32.putU (s1.imp fun _=>SliceV.notU32) b (.slice (some ⟨gs a,0,none⟩) C C))
 have hsw:∀ i,i<m→∃ j,j<m∧swp gs a b i=gs j∧swp F a b i=F j∧(j=if i=a then b else if i=b then a else i):=fun i hi=>by
  by_cases e1:i=a
  ·exact⟨b,hb,by rw[swp,if_pos e1],by rw[swp,if_pos e1],by rw[if_pos e1]⟩
  ·by_cases e2:i=b
   ·exact⟨a,ha,by rw[swp,if_neg e1,if_pos e2],by rw[swp,if_neg e1,if_pos e2],by rw[if_neg e1,if_pos e2]⟩
   ·exact⟨i,hi,by rw[swp,if_neg e1,if_neg e2],by rw[swp,if_neg e1,if_neg e2],by rw[if_neg e1,if_neg e2]⟩
 refine⟨⟨stk_put s1 _ _ ⟨_,_,_,rfl⟩,fun i=>frozen_set (frozen_set (h.free i)),h.hB,fun i hi=>?_,fun i hi=>?_,fun i hi=>?_,fun i hi=>?_,fun i j hi hj e=>?_⟩,h32⟩
 ·have hs:∀ {k:Nat} {u:Value},k<m→((w.setCell ⟨G,a,none⟩ u).cell? ⟨G,k,none⟩).isSome=true:=fun {k u} hk=>some_put (by rw[h.at_ k hk];rfl)
  by_cases e2:i=b
  ·subst e2
   rw[World.cell?_setCell_same' _ _ _ (hs hi)]
   rw[swp,if_neg (fun e=>hab e.symm),if_pos rfl]
  ·rw[World.cell?_setCell_other _ _ _ _ (by simp <;> omega)]
   by_cases e1:i=a
   ·subst e1
    rw[World.cell?_setCell_same' _ _ _ (by rw[h.at_ i hi];rfl),swp,if_pos rfl]
   ·rw[World.cell?_setCell_other _ _ _ _ (by simp <;> omega),swp,if_neg e1,if_neg e2]
    exact h.at_ i hi
 ·obtain⟨j,hj,e1,e2,_⟩:=hsw i hi
  rw[e1]
  have h2:=h.ne j hj
  have hr:=((h.row j hj).i32 (fun _=>IsQ.solid _) (h.at_slice hb a) (but_put w G a _) h2).i32 (fun _=>IsQ.solid _) (I32.putU (s1.imp fun _=>SliceV.notU32) b (.slice (some ⟨gs a,0,none⟩) C C)) (but_put _ G b _) h2
  exact hr.congr (fun q _=>by rw[e2])
 ·obtain⟨j,hj,e1,_⟩:=hsw i hi
  rw[e1];exact h.ge j hj
 ·obtain⟨j,hj,e1,_⟩:=hsw i hi
  rw[e1];exact h.ne j hj
 ·obtain⟨j1,h1,e1,_,d1⟩:=hsw i hi
  obtain⟨j2,h2,e2,_,d2⟩:=hsw j hj
  have h3:=h.inj j1 j2 h1 h2 (by rw[← e1,← e2,e])
  rw[d1,d2]at h3
  split at h3 <;> split at h3 <;>(try split at h3) <;>(try split at h3) <;> omega
theorem GM.more (h:GM F m C w G gs B) {g:Nat} (_hs:(w.cell? ⟨G,m,none⟩).isSome=true) (hr:QRow (fun q=>IsQ (F m q)) w g C C) (hg:B≤g) (hne:g≠G) (hnew:∀ i,i<m→gs i≠g) (hc:w.cell? ⟨G,m,none⟩=some (.slice (some ⟨g,0,none⟩) C C)):
  GM F (m+1) C w G (fun i=>if i=m then g else gs i) B:=by
 have hl:∀ i,i<m+1→i≠m→i<m:=fun i h1 h2=>by omega
 refine⟨h.stk,h.free,h.hB,fun i hi=>?_,fun i hi=>?_,fun i hi=>?_,fun i hi=>?_,fun i j hi hj e=>?_⟩
 ·by_cases e:i=m
  ·rw[if_pos e,e];exact hc
  ·rw[if_neg e];exact h.at_ i (hl i hi e)
 ·by_cases e:i=m
  ·rw[if_pos e,e];exact hr
  ·rw[if_neg e];exact h.row i (hl i hi e)
 ·by_cases e:i=m
  ·rw[if_pos e];exact hg
  ·rw[if_neg e];exact h.ge i (hl i hi e)
 ·by_cases e:i=m
  ·rw[if_pos e];exact hne
  ·rw[if_neg e];exact h.ne i (hl i hi e)
 ·by_cases e1:i=m
  ·by_cases e2:j=m
   ·omega
   ·rw[if_pos e1,if_neg e2]at e
    exact absurd e.symm (hnew j (hl j hj e2))
  ·by_cases e2:j=m
   ·rw[if_neg e1,if_pos e2]at e
    exact absurd e (hnew i (hl i hi e1))
   ·rw[if_neg e1,if_neg e2]at e
    exact h.inj i j (hl i hi e1) (hl j hj e2) e
theorem GM.but {w':World} {R:Nat} (h:GM F m C w G gs B) (h32:I32 w w') (hg:w.grownBy w' (some R)) (hG:G≠R) (hne:∀ i,i<m→gs i≠R):GM F m C w' G gs B:=by
 have hG2:(some G:Option Nat)≠some R:=fun e=>hG (by injection e)
 have hbk:w'.heap[G]?=w.heap[G]?:=hg.block G h.stk.1 hG2
 exact⟨⟨Nat.lt_of_lt_of_le h.stk.1 hg.size,fun k v hv=>h.stk.2 k v ((World.cell?_of_block (a:=⟨G,k,none⟩) hbk).symm.trans hv)⟩,fun k=>(World.frozen?_of_block (a:=⟨G,k,none⟩) hbk).trans (h.free k),h.hB,fun k hk=>hg.cell (h.at_ k hk) hG2,fun k hk=>(h.row k hk).i32 (fun _=>IsQ.solid _) h32 hg (hne k hk),h.ge,h.ne,h.inj⟩
end
section
variable {P:Program} {md:Region.Mode} {ops:Array Oper} {Q:Exit→Act→World→Prop} {S:World→Prop} {X:List Nat}
def fullX (ops:Array Oper) (X:List Nat) (listed:Array Bool):Bool:=(List.range ops.size).all fun k=>listed.getD k true||X.contains k
theorem fullX_idle {listed:Array Bool} {i:Nat} (hX:X.contains i=true):fullX ops X (listed.setIfInBounds i true)=fullX ops X listed:=by
 unfold fullX
 congr 1
 funext k
 by_cases e:k=i
 ·subst e;rw[hX,Bool.or_true,Bool.or_true]
 ·rw[getD_set_ne true (fun h=>e h.symm)]
theorem not_fullX {listed:Array Bool} {k:Nat} (hk:k<ops.size) (hX:X.contains k=false) (h:listed.getD k true=false):fullX ops X listed=false:=by
 cases e:fullX ops X listed with
 | false=>rfl
 | true=>
  rw[fullX,List.all_eq_true]at e
  have h1:=e k (List.mem_range.2 hk)
  rw[h,hX]at h1
  cases h1
def waitX (md:Region.Mode) (ops:Array Oper) (X:List Nat) (listed:Array Bool) (i:Nat):Bool:=
 (List.range ops.size).any fun k=>k != i && !(listed.getD k true) && !X.contains k&&match ops[k]? with
  | some o=>o.after.any fun e=>Region.binds md e&&e.on==i
  | none=>false
def wpX (P:Program) (md:Region.Mode) (ops:Array Oper) (Q:Exit→Act→World→Prop) (S:World→Prop) (X:List Nat):Nat→Array Bool→Act→World→Prop
 | 0,listed,a,w=>Region.ready md ops listed=[]∧Q .normal a w
 | n+1,listed,a,w=>(Region.ready md ops listed=[]→Q .normal a w) ∧
  ∀ i∈Region.ready md ops listed,wpOp P ops Q i (fun a' w'=>(fullX ops X (listed.setIfInBounds i true)=false→S w')∧wpX P md ops Q S X n (listed.setIfInBounds i true) a' w') a w
theorem wpX.any:∀ (n:Nat) (listed:Array Bool) (a:Act) (w:World),wpX P md ops Q S X n listed a w→wpAny P md ops Q n listed a w
 | 0,_,_,_,h=>h
 | n+1,_,_,_,h=>⟨h.1,fun i hi=>wpOp_mono (fun a' w' h'=>wpX.any n _ a' w' h'.2) (h.2 i hi)⟩
theorem wpX.first {T:World→Prop} {i:Nat} {oi:Oper} {v:Value} (hi:ops[i]?=some oi)
  (hsel:∀ (j:Nat) (o:Oper) cs b,ops[j]?=some o→o.op≠.select cs b) (hQ:∀ c a w,Q (.panic c) (a.put oi.dst v) w→Q (.panic c) a w) (I:Array Bool→Prop)
  (hI:∀ l j,I l→j≠i→j∈Region.ready md ops l→I (l.setIfInBounds j true)) (hF:∀ l,I l→(fullX ops X (l.setIfInBounds i true)=false→∀ w,S w→T w)∧(fullX ops X l=false→fullX ops X (l.setIfInBounds i true)=false)∧(fullX ops X l=true→∀ w,T w)):
  ∀ (n:Nat) (listed:Array Bool) (a:Act) (w:World),I listed →
   (∀ j oj,ops[j]?=some oj→j≠i→listed.getD j true=false→(∀ e∈oj.after,Region.binds md e=true→e.on≠i)→oi.apart ops oj=true) →
   i∈Region.ready md ops listed→YieldsIf P ops T oi v a→(fullX ops X listed=false→S w) →
   wpX P md ops Q S X n (listed.setIfInBounds i true) (a.put oi.dst v) w→wpX P md ops Q S X (n+1) listed a w:=by
 have hTS:∀ l w,I l→(fullX ops X l=false→S w)→T w:=fun l w hl h=>by
  cases e:fullX ops X l with
  | true=>exact(hF l hl).2.2 e w
  | false=>exact(hF l hl).1 ((hF l hl).2.1 e) w (h e)
 have hSS:∀ l w,I l→(fullX ops X l=false→S w)→fullX ops X (l.setIfInBounds i true)=false→S w:=fun l w hl h h2=>by
  cases e:fullX ops X l with
  | false=>exact h e
  | true=>
   rw[fullX,List.all_eq_true]at e
   unfold fullX at h2
   rw[List.all_eq_false]at h2
   obtain⟨k,hk,h3⟩:=h2
   have h4:=e k hk
   exfalso
   apply h3
   by_cases hki:k=i
   ·subst hki
    rcases Nat.lt_or_ge k l.size with h5|h5
    ·simp[h5]
    ·simp[h5]
   ·rw[getD_set_ne true (fun h=>hki h.symm)];exact h4
 intro n
 induction n with
 | zero=>
  intro listed a w hIl _ hr hy hS H
  refine⟨(fun h=>by rw[h]at hr;cases hr),fun j hj=>?_⟩
  by_cases hji:j=i
  ·subst hji;exact hy.wpOp hi (hTS _ _ hIl hS) ⟨hSS _ _ hIl hS,H⟩
  ·have h1:=ready_mono hj hji
   rw[H.1]at h1
   cases h1
 | succ n ih=>
  intro listed a w hIl hfree hr hy hS H
  refine⟨(fun h=>by rw[h]at hr;cases hr),fun j hj=>?_⟩
  by_cases hji:j=i
  ·subst hji;exact hy.wpOp hi (hTS _ _ hIl hS) ⟨hSS _ _ hIl hS,H⟩
  have h1:=H.2 j (ready_mono hj hji)
  obtain⟨hjl,oj,hoj,hall⟩:=mem_ready.1 hj
  have hin:listed.getD i false=false:=by
   have h0:=(mem_ready.1 hr).1
   rcases Nat.lt_or_ge i listed.size with h2|h2
   ·simp[h2]at h0 ⊢;exact h0
   ·simp[Array.getElem?_eq_none h2]
  have hno:∀ e∈oj.after,Region.binds md e=true→e.on≠i:=fun e he hb h2=>by
   have h3:=hall e he hb
   rw[h2,hin]at h3
   cases h3
  have h2:=wpOp_putIf hoj (hfree j oj hoj hji hjl hno) (fun cs b=>hsel i oi cs b hi) (fun cs b=>hsel j oj cs b hoj) hQ hy h1
  refine wpOp_mono (fun a' w' h3=>?_) h2
  have hIj:=hI listed j hIl hji hj
  have hS':fullX ops X (listed.setIfInBounds j true)=false→S w':=fun e=>h3.2.1 (by rw[Array.setIfInBounds_comm _ _ (Ne.symm hji)];exact(hF _ hIj).2.1 e)
  refine⟨hS',ih _ a' w' hIj (fun q oq hq hqi hql hqn=>hfree q oq hq hqi ?_ hqn) (ready_mono hr (Ne.symm hji)) h3.1 hS' ?_⟩
  ·by_cases hjq:j=q
   ·subst hjq;exact hjl
   ·rw[getD_set_ne true hjq]at hql;exact hql
  ·rw[Array.setIfInBounds_comm _ _ hji]
   exact h3.2.2
theorem waitX_spec {listed:Array Bool} {i:Nat} (h:waitX md ops X listed i=true):∃ k ok,ops[k]?=some ok∧k≠i∧listed.getD k true=false∧X.contains k=false∧∃ e∈ok.after,Region.binds md e=true∧e.on=i:=by
 rw[waitX,List.any_eq_true]at h
 obtain⟨k,_,h⟩:=h
 cases hk:ops[k]? with
 | none=>rw[hk]at h;simp at h
 | some o=>
  rw[hk]at h
  simp only[Bool.and_eq_true,bne_iff_ne,ne_eq,Bool.not_eq_true',beq_iff_eq,Array.any_eq_true']at h
  obtain⟨⟨⟨h1,h2⟩,h0⟩,e,h3,h4,h5⟩:=h
  exact⟨k,o,hk,h1,h2,h0,e,h3,h4,h5⟩
theorem rgX (X:List Nat) {id:Nat} {a:Act} {w:World} (S:World→Prop) (hS:∀ W,Below w.heap.size w W→S W) (h:Hid (∀ W,Below w.heap.size w W→S W)→S w.drew→wpX P .any ops Q S X ops.size (Array.replicate ops.size false) a w.drew) (hm:P.follows .mixedOrders=true:=by kernel_rfl):(Code.region id ops true).wp P Q a w:=
 wp_region_any hm (wpX.any _ _ _ _ (h (Kh hS) (hS _ (Below.refl _ w).drew)))
theorem tkX (i:Nat) {oi:Oper} {v:Value} {n:Nat} {listed:Array Bool} {a a':Act} {w:World} (h:wpX P md ops Q S X n (listed.setIfInBounds i true) a' w)
  (hi:ops[i]?=some oi:=by rfl) (hS:S w:=by assumption) (hw:Region.wanted oi (yielded ops a.tmps)=true:=by rfl)
  (hy:∀ w,S w→(execOp a.eval oi).run P w=.ok (.value v) w:=by intro w hSw;(try dsimp only at hSw);go_simp;(try with_reducible rfl))
  (ha:a.put oi.dst v=a':=by(try simp only[Act.put,List.setIfInBounds_toArray,List.set_cons_zero,List.set_cons_succ]);rfl)
  (hs:Region.noSelect ops=true:=by kernel_rfl) (hf:Region.free md ops listed i=true:=by kernel_rfl) (hr:(Region.ready md ops listed).contains i=true:=by kernel_rfl) (hk:waitX md ops X listed i=true:=by kernel_rfl)
  (hQ:∀ c a w,Q (.panic c) (a.put oi.dst v) w→Q (.panic c) a w:=by exact fun _ _ _ h=>h):wpX P md ops Q S X (n+1) listed a w:=by
 subst ha
 obtain⟨k,ok,h1,h2,h3,h0,e0,he0,hb0,ho0⟩:=waitX_spec hk
 have hkx:k<ops.size:=(Array.getElem?_eq_some_iff.1 h1).1
 refine wpX.first (T:=S) hi (Region.noSelect_spec hs) hQ (fun l=>l.getD k true=false∧l.getD i false=false) (fun l j hl hji hj=>?_) (fun l hl=>?_) n listed a w ⟨h3,?_⟩ (Region.free_spec hi hf) (by simpa using hr) (.inl ⟨hw,hy⟩) (fun _=>hS) h
 ·obtain⟨_,oj,hoj,hall⟩:=mem_ready.1 hj
  refine⟨?_,?_⟩
  ·have hjk:j≠k:=fun h5=>by
    subst h5
    rw[hoj]at h1
    cases h1
    have h6:=hall e0 he0 hb0
    rw[ho0,hl.2]at h6
    cases h6
   rw[getD_set_ne true hjk];exact hl.1
  ·rw[getD_set_ne false hji];exact hl.2
 ·have hn:fullX ops X l=false:=not_fullX hkx h0 hl.1
  exact⟨fun _ w h=>h,fun _=>not_fullX hkx h0 (by rw[getD_set_ne true h2.symm];exact hl.1),fun h=>by rw[hn]at h;cases h⟩
 ·have hr2:i∈Region.ready md ops listed:=by simpa using hr
  have h5:=(mem_ready.1 hr2).1
  rcases Nat.lt_or_ge i listed.size with h6|h6
  ·simp[h6]at h5 ⊢;exact h5
  ·simp[Array.getElem?_eq_none h6]
theorem tkI (i:Nat) {oi:Oper} {v:Value} {n:Nat} {listed:Array Bool} {a a':Act} {w:World} (h:wpX P md ops Q S X n (listed.setIfInBounds i true) a' w)
  (hi:ops[i]?=some oi:=by rfl) (hS:S w:=by assumption) (hw:Region.wanted oi (yielded ops a.tmps)=true:=by rfl)
  (hy:∀ w,(execOp a.eval oi).run P w=.ok (.value v) w:=by intro w;go_simp;(try with_reducible rfl))
  (ha:a.put oi.dst v=a':=by(try simp only[Act.put,List.setIfInBounds_toArray,List.set_cons_zero,List.set_cons_succ]);rfl)
  (hs:Region.noSelect ops=true:=by kernel_rfl) (hf:Region.free md ops listed i=true:=by kernel_rfl) (hr:(Region.ready md ops listed).contains i=true:=by kernel_rfl) (hX:X.contains i=true:=by kernel_rfl)
  (hQ:∀ c a w,Q (.panic c) (a.put oi.dst v) w→Q (.panic c) a w:=by exact fun _ _ _ h=>h):wpX P md ops Q S X (n+1) listed a w:=by
 subst ha
 exact wpX.first (T:=fun _=>True) hi (Region.noSelect_spec hs) hQ (fun _=>True) (fun _ _ _ _ _=>trivial) (fun l _=>⟨fun _ _ _=>trivial,fun h=>by rw[fullX_idle hX];exact h,fun _ _=>trivial⟩) n listed a w trivial (Region.free_spec hi hf) (by simpa using hr) (.inl ⟨hw,fun w _=>hy w⟩) (fun _=>hS) h
theorem stX (i:Nat) {o:Oper} {n:Nat} {listed:Array Bool} {a:Act} {w:World}
  (ho:ops[i]?=some o) (h:∀ K':Act→World→Prop,Shut (∀ a w,S w→(S w→wpX P md ops Q S X n (listed.setIfInBounds i true) a w)→K' a w)→if Region.wanted o (yielded ops a.tmps)=true then Oper.wp P o a w K' Q else K' (a.put o.dst undef) w)
  (hr:Region.ready md ops listed=[i]:=by kernel_rfl):wpX P md ops Q S X (n+1) listed a w:=by
 refine⟨(fun e=>by rw[hr]at e;cases e),fun j hj=>?_⟩
 rw[hr,List.mem_singleton]at hj
 subst hj
 refine wpOp_step ho fun K' hK=>?_
 exact h K' fun a w hS hW=>hK a w ⟨fun _=>hS,hW hS⟩
theorem laX (i:Nat) {o:Oper} {n:Nat} {listed:Array Bool} {a:Act} {w:World}
  (ho:ops[i]?=some o) (h:∀ K':Act→World→Prop,Shut (∀ a w,Q .normal a w→K' a w)→if Region.wanted o (yielded ops a.tmps)=true then Oper.wp P o a w K' Q else K' (a.put o.dst undef) w)
  (hr:Region.ready md ops listed=[i]:=by kernel_rfl)
  (hn:Region.ready md ops (listed.setIfInBounds i true)=[]:=by kernel_rfl) (hl:fullX ops X (listed.setIfInBounds i true)=true:=by kernel_rfl):wpX P md ops Q S X (n+1) listed a w:=by
 refine⟨(fun e=>by rw[hr]at e;cases e),fun j hj=>?_⟩
 rw[hr,List.mem_singleton]at hj
 subst hj
 refine wpOp_step ho fun K' hK=>?_
 refine h K' fun a w hq=>hK a w ⟨(fun e=>by rw[hl]at e;cases e),?_⟩
 cases n with
 | zero=>exact⟨hn,hq⟩
 | succ n=>exact⟨fun _=>hq,fun j hj=>by rw[hn]at hj;cases hj⟩
theorem tkJ (i:Nat) {oi:Oper} {v:Value} {n d:Nat} {listed:Array Bool} {a a':Act} {w:World} (h:wpX P md ops Q S X n (listed.setIfInBounds i true) a' w)
  (hi:ops[i]?=some oi:=by rfl) (hl:fullX ops X listed=true:=by kernel_rfl) (hw:Region.wanted oi (yielded ops a.tmps)=true:=by rfl)
  (hy:∀ w,(execOp a.eval oi).run P w=.ok (.value v) w:=by intro w;go_simp;(try with_reducible rfl))
  (hd:oi.dst=some d:=by rfl) (ha:a.put (some d) v=a':=by(try simp only[Act.put,List.setIfInBounds_toArray,List.set_cons_zero,List.set_cons_succ]);rfl)
  (hs:Region.noSelect ops=true:=by kernel_rfl) (hf:Region.free md ops listed i=true:=by kernel_rfl) (hr:(Region.ready md ops listed).contains i=true:=by kernel_rfl) (hX:X.contains i=true:=by kernel_rfl)
  (hQ:∀ c a w,Q (.panic c) (a.put oi.dst v) w→Q (.panic c) a w:=by exact fun _ _ _ h=>h):wpX P md ops Q S X (n+1) listed a w:=by
 subst ha
 rw[← hd]at h
 exact wpX.first (T:=fun _=>True) hi (Region.noSelect_spec hs) hQ (fun _=>True) (fun _ _ _ _ _=>trivial) (fun l _=>⟨fun _ _ _=>trivial,fun h=>by rw[fullX_idle hX];exact h,fun _ _=>trivial⟩) n listed a w trivial (Region.free_spec hi hf) (by simpa using hr) (.inl ⟨hw,fun w _=>hy w⟩) (fun e=>by rw[hl]at e;cases e) h
theorem snX (i:Nat) {o:Oper} {n:Nat} {listed:Array Bool} {a:Act} {w:World}
  (ho:ops[i]?=some o) (h:∀ K':Act→World→Prop,Shut (∀ a w,wpX P md ops Q S X n (listed.setIfInBounds i true) a w→K' a w)→if Region.wanted o (yielded ops a.tmps)=true then Oper.wp P o a w K' Q else K' (a.put o.dst undef) w)
  (hr:Region.ready md ops listed=[i]:=by kernel_rfl) (hl:fullX ops X (listed.setIfInBounds i true)=true:=by kernel_rfl):wpX P md ops Q S X (n+1) listed a w:=by
 refine⟨(fun e=>by rw[hr]at e;cases e),fun j hj=>?_⟩
 rw[hr,List.mem_singleton]at hj
 subst hj
 refine wpOp_step ho fun K' hK=>?_
 exact h K' fun a w hW=>hK a w ⟨(fun e=>by rw[hl]at e;cases e),hW⟩
theorem dnX {n:Nat} {listed:Array Bool} {a:Act} {w:World} (h:Q .normal a w) (hr:Region.ready md ops listed=[]:=by kernel_rfl):wpX P md ops Q S X n listed a w:=by
 cases n with
 | zero=>exact⟨hr,h⟩
 | succ n=>exact⟨fun _=>h,fun j hj=>by rw[hr]at hj;cases hj⟩
end
end Go.Proofs.YthikonjlgljikaaGreatDoor
