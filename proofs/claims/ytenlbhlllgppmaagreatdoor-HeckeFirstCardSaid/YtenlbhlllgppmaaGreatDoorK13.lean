/- What is held of the world in a region that draws its order: cells that are read, cells that are written, and that nothing below B has turned. -/
import Derived.Test.YtenlbhlllgppmaaGreatDoorK12
import Derived.Deep.RegionHeld3
set_option linter.unusedSimpArgs false
namespace Go.Proofs.YtenlbhlllgppmaaGreatDoor
open Go.RowKit
def cellOf (w:World) (a:Addr):Value:=(w.cell? a).getD (.bool false)
theorem cellOf_some {w:World} {a:Addr} (h:(w.cell? a).isSome=true):w.cell? a=some (cellOf w a):=by
 unfold cellOf
 obtain⟨u,hu⟩:=Option.isSome_iff_exists.1 h
 rw[hu];rfl
theorem some_cellOf {w:World} {a:Addr} (h:w.cell? a=some (cellOf w a)):(w.cell? a).isSome=true:=by rw[h];rfl
def NotInt (v:Value):Prop:=∀ k n,v≠.int k n
theorem NotInt.bool (b:Bool):NotInt (.bool b):=fun _ _ h=>by cases h
theorem NotInt.slice (p:Option Addr) (n c:Nat):NotInt (.slice p n c):=fun _ _ h=>by cases h
def Sts (w:World) (R:Nat):Prop:=R<w.heap.size∧∀ i v,w.cell? ⟨R,i,none⟩=some v→NotInt v
theorem Sts.next {w w':World} {R:Nat} (hb:Below w.heap.size w w') (h:Sts w R):Sts w' R:=
 ⟨Nat.lt_of_lt_of_le h.1 hb.size,fun i v hv=>h.2 i v ((hb.cell (p:=⟨R,i,none⟩) h.1).symm.trans hv)⟩
theorem setCell_none {w:World} {p:Addr} (u:Value) (h:w.cell? p=none):(w.setCell p u).cell? p=none:=by
 simp only[World.setCell,World.cell?,Array.getElem?_modify,if_true]at h ⊢
 cases hh:w.heap[p.block]? with
 | none=>simp
 | some x=>
  rw[hh]at h
  cases x <;> simp only[Option.map_some]at h ⊢
  by_cases hs:p.spot.isSome=true
  ·simp[hs]
  ·simp only[hs,Bool.false_eq_true,if_false]at h ⊢
   rw[Array.getElem?_eq_none_iff]at h ⊢
   simpa using h
theorem Sts.put {w:World} {R:Nat} (h:Sts w R) (p:Addr) (u:Value) (hu:NotInt u):Sts (w.setCell p u) R:=by
 refine⟨by simpa using h.1,fun i v hv=>?_⟩
 by_cases hp:p=⟨R,i,none⟩
 ·cases hc:w.cell? p with
  | none=>
   have:((w.setCell p u).cell? p)=none:=by
    exact setCell_none u hc
   rw[← hp,this]at hv;cases hv
  | some y=>
   rw[← hp,World.cell?_setCell_same' _ _ _ (by rw[hc];rfl)]at hv
   injection hv with hv
   rw[← hv];exact hu
 ·rw[World.cell?_setCell_other _ _ _ _ hp]at hv
  exact h.2 i v hv
theorem Sts.of {w:World} {R:Nat} {t:TypeId} {cs:Array Value} (h:Blk w R t cs) (hc:∀ v∈cs,NotInt v):Sts w R:=
 ⟨h.lt,fun i v hv=>by
  rw[h.cell_ i]at hv
  exact hc v (Array.mem_of_getElem? hv)⟩
theorem Dg.put {w:World} {R:Nat} (hs:Sts w R) {p:Option Addr} {c n:Nat} {a:Nat→Nat} (h:Dg w p c n a) (i:Nat) (u:Value):Dg (w.setCell ⟨R,i,none⟩ u) p c n a:=
 ⟨h.cap,h.lt,by
  rcases h.at' with h1 |⟨g,o,e,hg,hc⟩
  ·exact .inl h1
  ·rcases Nat.eq_zero_or_pos n with h0|h0
   ·exact .inl h0
   ·refine .inr ⟨g,o,e,by simpa using hg,fun j hj=>?_⟩
    have hne:R≠g:=fun e2=>hs.2 (o+j) _ (by rw[e2];exact hc j hj) _ _ rfl
    rw[World.cell?_setCell_far w ⟨R,i,none⟩ ⟨g,o+j,none⟩ u hne]
    exact hc j hj⟩
theorem Zs.put {w:World} {R:Nat} (hs:Sts w R) {s:Bool} {p:Option Addr} {n c:Nat} {z:Int} (h:Zs w s p n c z) (i:Nat) (u:Value):Zs (w.setCell ⟨R,i,none⟩ u) s p n c z:=⟨h.1,h.2.1,Dg.put hs h.2.2 i u⟩
theorem Zs.put2 {w:World} {R:Nat} (hs:Sts w R) {s:Bool} {p:Option Addr} {n c:Nat} {z:Int} (h:Zs w s p n c z) (i j:Nat) (u v:Value) (hu:NotInt u):Zs ((w.setCell ⟨R,i,none⟩ u).setCell ⟨R,j,none⟩ v) s p n c z:=(h.put hs i u).put (hs.put _ _ hu) j v
def SV (B:Nat) (w0 w:World):List Addr→Prop
 | []=>Below B w0 w∧B≤w.heap.size
 | a :: m=>w.cell? a=some (cellOf w a)∧w.frozen? a=false∧Sts w a.block∧SV B w0 w m
def SS (B:Nat) (w0 w:World) (l:List (Addr×Value)) (m:List Addr):Prop:=
 match l with
 | []=>SV B w0 w m
 |(a,v) :: l=>w.cell? a=some v∧SS B w0 w l m
theorem frozen_keep {w w':World} {a:Addr} (hb:Below w.heap.size w w') (h:(w.cell? a).isSome=true) (hf:w.frozen? a=false):w'.frozen? a=false:=by
 obtain⟨u,hu⟩:=Option.isSome_iff_exists.1 h
 have hl:=World.block_lt_of_cell? w a hu
 have e:w'.heap[a.block]?=w.heap[a.block]?:=hb.block a.block hl
 unfold World.frozen? at hf ⊢
 rw[e];exact hf
theorem SV.next {B:Nat} {w0 w w':World} {m:List Addr} (hb:Below w.heap.size w w') (h:SV B w0 w m):SV B w0 w' m:=by
 induction m with
 | nil=>exact⟨h.1.trans (hb.mono h.2),Nat.le_trans h.2 hb.size⟩
 | cons a m ih=>
  refine⟨cellOf_some ?_,frozen_keep hb (some_cellOf h.1) h.2.1,h.2.2.1.next hb,ih h.2.2.2⟩
  rw[hb.cell (World.block_lt_of_cell? w a h.1)];exact some_cellOf h.1
theorem SS.next {B:Nat} {w0 w w':World} {l:List (Addr×Value)} {m:List Addr} (hb:Below w.heap.size w w') (h:SS B w0 w l m):SS B w0 w' l m:=by
 induction l with
 | nil=>exact SV.next hb h
 | cons x l ih=>exact⟨(hb.cell (World.block_lt_of_cell? w x.1 h.1)).trans h.1,ih h.2⟩
theorem SV.below {B:Nat} {w0 w:World} {m:List Addr} (h:SV B w0 w m):Below B w0 w:=by
 induction m with
 | nil=>exact h.1
 | cons a m ih=>exact ih h.2.2.2
theorem SS.below {B:Nat} {w0 w:World} {l:List (Addr×Value)} {m:List Addr} (h:SS B w0 w l m):Below B w0 w:=by
 induction l with
 | nil=>exact SV.below h
 | cons x l ih=>exact ih h.2
theorem cell_some_set {w:World} {p a:Addr} {v:Value} (h:(w.cell? a).isSome=true):((w.setCell p v).cell? a).isSome=true:=by
 by_cases hp:p=a
 ·rw[hp,World.cell?_setCell_same' _ _ _ h];rfl
 ·rw[World.cell?_setCell_other _ _ _ _ hp];exact h
theorem frozen_set {w:World} {p a:Addr} {v:Value} (hf:w.frozen? a=false):(w.setCell p v).frozen? a=false:=by
 rw[World.frozen?_setCell];exact hf
theorem SV.put {B:Nat} {w0 w:World} {m:List Addr} (h:SV B w0 w m) (p:Addr) (v:Value) (hv:NotInt v) (hp:B≤p.block):SV B w0 (w.setCell p v) m:=by
 induction m with
 | nil=>exact⟨h.1.setCell hp v,by simpa using h.2⟩
 | cons a m ih=>exact⟨cellOf_some (cell_some_set (some_cellOf h.1)),frozen_set h.2.1,h.2.2.1.put p v hv,ih h.2.2.2⟩
theorem SS.put {B:Nat} {w0 w:World} {l:List (Addr×Value)} {m:List Addr} (h:SS B w0 w l m) (p:Addr) (v:Value) (hv:NotInt v) (hp:B≤p.block) (hl:∀ x∈l,p.block≠x.1.block):SS B w0 (w.setCell p v) l m:=by
 induction l with
 | nil=>exact SV.put h p v hv hp
 | cons x l ih=>exact⟨(World.cell?_setCell_far w p x.1 v (hl x (List.mem_cons_self ..))).trans h.1,ih h.2 (fun y hy=>hl y (List.mem_cons_of_mem _ hy))⟩
theorem SV.end_ {B:Nat} {w0 w w':World} {a:Addr} {m:List Addr} (hb:Below w.heap.size w w') (h:SV B w0 w m) (ha:a∈m):(w'.cell? a).isSome=true∧Sts w' a.block:=by
 induction m with
 | nil=>cases ha
 | cons x m ih=>
  rcases List.mem_cons.1 ha with rfl|ha
  ·refine⟨?_,h.2.2.1.next hb⟩
   rw[hb.cell (World.block_lt_of_cell? w a h.1)];exact some_cellOf h.1
  ·exact ih h.2.2.2 ha
theorem SS.end_ {B:Nat} {w0 w w':World} {a:Addr} {l:List (Addr×Value)} {m:List Addr} (hb:Below w.heap.size w w') (h:SS B w0 w l m) (ha:a∈m):(w'.cell? a).isSome=true∧Sts w' a.block:=by
 induction l with
 | nil=>exact SV.end_ hb h ha
 | cons x l ih=>exact ih h.2
theorem box1 (w:World) (c1:Array Value) (t1:TypeId):Blk (w.alloc (.cells c1 t1)) w.heap.size t1 c1∧Below w.heap.size w (w.alloc (.cells c1 t1)):=
 ⟨Blk.new w _ _,(Below.refl _ _).alloc (Nat.le_refl _) _⟩
theorem box2 (w:World) (c1:Array Value) (t1:TypeId) (c2:Array Value) (t2:TypeId):Blk ((w.alloc (.cells c1 t1)).alloc (.cells c2 t2)) w.heap.size t1 c1∧Blk ((w.alloc (.cells c1 t1)).alloc (.cells c2 t2)) (w.heap.size+1) t2 c2∧Below w.heap.size w ((w.alloc (.cells c1 t1)).alloc (.cells c2 t2)):=by
 have h:=Blk.new (w.alloc (.cells c1 t1)) t2 c2
 rw[World.size_alloc]at h
 exact⟨(Blk.new w _ _).alloc_ _,h,((Below.refl _ _).alloc (Nat.le_refl _) _).alloc (by simp) _⟩
theorem box3 (w:World) (c1:Array Value) (t1:TypeId) (c2:Array Value) (t2:TypeId) (c3:Array Value) (t3:TypeId):Blk (((w.alloc (.cells c1 t1)).alloc (.cells c2 t2)).alloc (.cells c3 t3)) w.heap.size t1 c1∧Blk (((w.alloc (.cells c1 t1)).alloc (.cells c2 t2)).alloc (.cells c3 t3)) (w.heap.size+1) t2 c2∧Blk (((w.alloc (.cells c1 t1)).alloc (.cells c2 t2)).alloc (.cells c3 t3)) (w.heap.size+1+1) t3 c3∧Below w.heap.size w (((w.alloc (.cells c1 t1)).alloc (.cells c2 t2)).alloc (.cells c3 t3)):=by
 obtain⟨h1,h2,h3⟩:=box2 w c1 t1 c2 t2
 have h:=Blk.new ((w.alloc (.cells c1 t1)).alloc (.cells c2 t2)) t3 c3
 rw[World.size_alloc,World.size_alloc]at h
 exact⟨h1.alloc_ _,h2.alloc_ _,h,h3.alloc (by simp;omega) _⟩
theorem box4 (w:World) (c1:Array Value) (t1:TypeId) (c2:Array Value) (t2:TypeId) (c3:Array Value) (t3:TypeId) (c4:Array Value) (t4:TypeId):Blk ((((w.alloc (.cells c1 t1)).alloc (.cells c2 t2)).alloc (.cells c3 t3)).alloc (.cells c4 t4)) w.heap.size t1 c1∧Blk ((((w.alloc (.cells c1 t1)).alloc (.cells c2 t2)).alloc (.cells c3 t3)).alloc (.cells c4 t4)) (w.heap.size+1) t2 c2∧Blk ((((w.alloc (.cells c1 t1)).alloc (.cells c2 t2)).alloc (.cells c3 t3)).alloc (.cells c4 t4)) (w.heap.size+1+1) t3 c3∧Blk ((((w.alloc (.cells c1 t1)).alloc (.cells c2 t2)).alloc (.cells c3 t3)).alloc (.cells c4 t4)) (w.heap.size+1+1+1) t4 c4∧Below w.heap.size w ((((w.alloc (.cells c1 t1)).alloc (.cells c2 t2)).alloc (.cells c3 t3)).alloc (.cells c4 t4)):=by
 obtain⟨h1,h2,h3,h4⟩:=box3 w c1 t1 c2 t2 c3 t3
 have h:=Blk.new (((w.alloc (.cells c1 t1)).alloc (.cells c2 t2)).alloc (.cells c3 t3)) t4 c4
 rw[World.size_alloc,World.size_alloc,World.size_alloc]at h
 exact⟨h1.alloc_ _,h2.alloc_ _,h3.alloc_ _,h,h4.alloc (by simp;omega) _⟩
theorem bx1 (w:World) (c1:Array Value) (t1:TypeId):∃ w0,(w.alloc (.cells c1 t1))=w0∧Blk w0 (w.heap.size) t1 c1∧Below w.heap.size w w0:=⟨_,rfl,box1 w c1 t1⟩
theorem bx2 (w:World) (c1:Array Value) (t1:TypeId) (c2:Array Value) (t2:TypeId):∃ w0,((w.alloc (.cells c1 t1)).alloc (.cells c2 t2))=w0∧Blk w0 (w.heap.size) t1 c1∧Blk w0 (w.heap.size+1) t2 c2∧Below w.heap.size w w0:=⟨_,rfl,box2 w c1 t1 c2 t2⟩
theorem bx3 (w:World) (c1:Array Value) (t1:TypeId) (c2:Array Value) (t2:TypeId) (c3:Array Value) (t3:TypeId):∃ w0,(((w.alloc (.cells c1 t1)).alloc (.cells c2 t2)).alloc (.cells c3 t3))=w0∧Blk w0 (w.heap.size) t1 c1∧Blk w0 (w.heap.size+1) t2 c2∧Blk w0 (w.heap.size+1+1) t3 c3∧Below w.heap.size w w0:=⟨_,rfl,box3 w c1 t1 c2 t2 c3 t3⟩
theorem bx4 (w:World) (c1:Array Value) (t1:TypeId) (c2:Array Value) (t2:TypeId) (c3:Array Value) (t3:TypeId) (c4:Array Value) (t4:TypeId):∃ w0,((((w.alloc (.cells c1 t1)).alloc (.cells c2 t2)).alloc (.cells c3 t3)).alloc (.cells c4 t4))=w0∧Blk w0 (w.heap.size) t1 c1∧Blk w0 (w.heap.size+1) t2 c2∧Blk w0 (w.heap.size+1+1) t3 c3∧Blk w0 (w.heap.size+1+1+1) t4 c4∧Below w.heap.size w w0:=⟨_,rfl,box4 w c1 t1 c2 t2 c3 t3 c4 t4⟩
theorem Blk.c0 {w:World} {g:Nat} {t:TypeId} {a:Value} {l:List Value} (h:Blk w g t (a :: l).toArray):w.cell? ⟨g,0,none⟩=some a:=h.at_ 0 rfl
theorem Blk.c1 {w:World} {g:Nat} {t:TypeId} {a b:Value} {l:List Value} (h:Blk w g t (a :: b :: l).toArray):w.cell? ⟨g,1,none⟩=some b:=h.at_ 1 rfl
theorem Blk.c2 {w:World} {g:Nat} {t:TypeId} {a b c:Value} {l:List Value} (h:Blk w g t (a :: b :: c :: l).toArray):w.cell? ⟨g,2,none⟩=some c:=h.at_ 2 rfl
theorem Blk.c3 {w:World} {g:Nat} {t:TypeId} {a b c d:Value} {l:List Value} (h:Blk w g t (a :: b :: c :: d :: l).toArray):w.cell? ⟨g,3,none⟩=some d:=h.at_ 3 rfl
theorem Blk.c4 {w:World} {g:Nat} {t:TypeId} {a b c d e:Value} {l:List Value} (h:Blk w g t (a :: b :: c :: d :: e :: l).toArray):w.cell? ⟨g,4,none⟩=some e:=h.at_ 4 rfl
theorem Blk.so {w:World} {g:Nat} {t:TypeId} {cs:Array Value} (h:Blk w g t cs) (i:Nat) (hi:i<cs.size:=by decide):w.cell? ⟨g,i,none⟩=some (cellOf w ⟨g,i,none⟩):=cellOf_some (by rw[h.cell_ i,Array.getElem?_eq_getElem hi];rfl)
abbrev C2_2 (B:Nat) (w0 w:World) (a0 a1 b0 b1:Addr) (v0 v1:Value):Prop:=w.cell? a0=some v0∧w.cell? a1=some v1∧w.cell? b0=some (cellOf w b0)∧w.frozen? b0=false∧Sts w b0.block∧w.cell? b1=some (cellOf w b1)∧w.frozen? b1=false∧Sts w b1.block∧Below B w0 w∧B≤w.heap.size
theorem S2_2_next {B:Nat} {w0 w w':World} {a0 a1 b0 b1:Addr} {v0 v1:Value} (hb:Below w.heap.size w w') (h:C2_2 B w0 w a0 a1 b0 b1 v0 v1):C2_2 B w0 w' a0 a1 b0 b1 v0 v1:=SS.next (B:=B) (w0:=w0) (l:=[(a0,v0),(a1,v1)]) (m:=[b0,b1]) hb h
theorem S2_2_below {B:Nat} {w0 w:World} {a0 a1 b0 b1:Addr} {v0 v1:Value} (h:C2_2 B w0 w a0 a1 b0 b1 v0 v1):Below B w0 w:=SS.below (B:=B) (w0:=w0) (l:=[(a0,v0),(a1,v1)]) (m:=[b0,b1]) h
theorem S2_2_end {B:Nat} {w0 w w':World} {a0 a1 b0 b1:Addr} {v0 v1:Value} (hb:Below w.heap.size w w') (h:C2_2 B w0 w a0 a1 b0 b1 v0 v1):((w'.cell? b0).isSome=true∧Sts w' b0.block)∧((w'.cell? b1).isSome=true∧Sts w' b1.block):=⟨SS.end_ (B:=B) (w0:=w0) (l:=[(a0,v0),(a1,v1)]) (m:=[b0,b1]) hb h (by simp),SS.end_ (B:=B) (w0:=w0) (l:=[(a0,v0),(a1,v1)]) (m:=[b0,b1]) hb h (by simp)⟩
theorem S2_2_put {B:Nat} {w0 w:World} {a0 a1 b0 b1:Addr} {v0 v1:Value} (h:C2_2 B w0 w a0 a1 b0 b1 v0 v1) {p0 p1:Addr} {u0 u1:Value} (hi0:NotInt u0) (hp0:B≤p0.block) (hn0_0:p0.block≠a0.block) (hn0_1:p0.block≠a1.block) (hi1:NotInt u1) (hp1:B≤p1.block) (hn1_0:p1.block≠a0.block) (hn1_1:p1.block≠a1.block):C2_2 B w0 ((w.setCell p0 u0).setCell p1 u1) a0 a1 b0 b1 v0 v1:=(SS.put (B:=B) (w0:=w0) (l:=[(a0,v0),(a1,v1)]) (m:=[b0,b1]) (SS.put (B:=B) (w0:=w0) (l:=[(a0,v0),(a1,v1)]) (m:=[b0,b1]) h p0 u0 hi0 hp0 (by simp[*])) p1 u1 hi1 hp1 (by simp[*]))
abbrev C4_2 (B:Nat) (w0 w:World) (a0 a1 a2 a3 b0 b1:Addr) (v0 v1 v2 v3:Value):Prop:=w.cell? a0=some v0∧w.cell? a1=some v1∧w.cell? a2=some v2∧w.cell? a3=some v3∧w.cell? b0=some (cellOf w b0)∧w.frozen? b0=false∧Sts w b0.block∧w.cell? b1=some (cellOf w b1)∧w.frozen? b1=false∧Sts w b1.block∧Below B w0 w∧B≤w.heap.size
theorem S4_2_next {B:Nat} {w0 w w':World} {a0 a1 a2 a3 b0 b1:Addr} {v0 v1 v2 v3:Value} (hb:Below w.heap.size w w') (h:C4_2 B w0 w a0 a1 a2 a3 b0 b1 v0 v1 v2 v3):C4_2 B w0 w' a0 a1 a2 a3 b0 b1 v0 v1 v2 v3:=SS.next (B:=B) (w0:=w0) (l:=[(a0,v0),(a1,v1),(a2,v2),(a3,v3)]) (m:=[b0,b1]) hb h
theorem S4_2_below {B:Nat} {w0 w:World} {a0 a1 a2 a3 b0 b1:Addr} {v0 v1 v2 v3:Value} (h:C4_2 B w0 w a0 a1 a2 a3 b0 b1 v0 v1 v2 v3):Below B w0 w:=SS.below (B:=B) (w0:=w0) (l:=[(a0,v0),(a1,v1),(a2,v2),(a3,v3)]) (m:=[b0,b1]) h
theorem S4_2_end {B:Nat} {w0 w w':World} {a0 a1 a2 a3 b0 b1:Addr} {v0 v1 v2 v3:Value} (hb:Below w.heap.size w w') (h:C4_2 B w0 w a0 a1 a2 a3 b0 b1 v0 v1 v2 v3):((w'.cell? b0).isSome=true∧Sts w' b0.block)∧((w'.cell? b1).isSome=true∧Sts w' b1.block):=⟨SS.end_ (B:=B) (w0:=w0) (l:=[(a0,v0),(a1,v1),(a2,v2),(a3,v3)]) (m:=[b0,b1]) hb h (by simp),SS.end_ (B:=B) (w0:=w0) (l:=[(a0,v0),(a1,v1),(a2,v2),(a3,v3)]) (m:=[b0,b1]) hb h (by simp)⟩
theorem S4_2_put {B:Nat} {w0 w:World} {a0 a1 a2 a3 b0 b1:Addr} {v0 v1 v2 v3:Value} (h:C4_2 B w0 w a0 a1 a2 a3 b0 b1 v0 v1 v2 v3) {p0 p1:Addr} {u0 u1:Value} (hi0:NotInt u0) (hp0:B≤p0.block) (hn0_0:p0.block≠a0.block) (hn0_1:p0.block≠a1.block) (hn0_2:p0.block≠a2.block) (hn0_3:p0.block≠a3.block) (hi1:NotInt u1) (hp1:B≤p1.block) (hn1_0:p1.block≠a0.block) (hn1_1:p1.block≠a1.block) (hn1_2:p1.block≠a2.block) (hn1_3:p1.block≠a3.block):C4_2 B w0 ((w.setCell p0 u0).setCell p1 u1) a0 a1 a2 a3 b0 b1 v0 v1 v2 v3:=(SS.put (B:=B) (w0:=w0) (l:=[(a0,v0),(a1,v1),(a2,v2),(a3,v3)]) (m:=[b0,b1]) (SS.put (B:=B) (w0:=w0) (l:=[(a0,v0),(a1,v1),(a2,v2),(a3,v3)]) (m:=[b0,b1]) h p0 u0 hi0 hp0 (by simp[*])) p1 u1 hi1 hp1 (by simp[*]))
abbrev C4_4 (B:Nat) (w0 w:World) (a0 a1 a2 a3 b0 b1 b2 b3:Addr) (v0 v1 v2 v3:Value):Prop:=w.cell? a0=some v0∧w.cell? a1=some v1∧w.cell? a2=some v2∧w.cell? a3=some v3∧w.cell? b0=some (cellOf w b0)∧w.frozen? b0=false∧Sts w b0.block∧w.cell? b1=some (cellOf w b1)∧w.frozen? b1=false∧Sts w b1.block∧w.cell? b2=some (cellOf w b2)∧w.frozen? b2=false∧Sts w b2.block∧w.cell? b3=some (cellOf w b3)∧w.frozen? b3=false∧Sts w b3.block∧Below B w0 w∧B≤w.heap.size
theorem S4_4_next {B:Nat} {w0 w w':World} {a0 a1 a2 a3 b0 b1 b2 b3:Addr} {v0 v1 v2 v3:Value} (hb:Below w.heap.size w w') (h:C4_4 B w0 w a0 a1 a2 a3 b0 b1 b2 b3 v0 v1 v2 v3):C4_4 B w0 w' a0 a1 a2 a3 b0 b1 b2 b3 v0 v1 v2 v3:=SS.next (B:=B) (w0:=w0) (l:=[(a0,v0),(a1,v1),(a2,v2),(a3,v3)]) (m:=[b0,b1,b2,b3]) hb h
theorem S4_4_below {B:Nat} {w0 w:World} {a0 a1 a2 a3 b0 b1 b2 b3:Addr} {v0 v1 v2 v3:Value} (h:C4_4 B w0 w a0 a1 a2 a3 b0 b1 b2 b3 v0 v1 v2 v3):Below B w0 w:=SS.below (B:=B) (w0:=w0) (l:=[(a0,v0),(a1,v1),(a2,v2),(a3,v3)]) (m:=[b0,b1,b2,b3]) h
theorem S4_4_end {B:Nat} {w0 w w':World} {a0 a1 a2 a3 b0 b1 b2 b3:Addr} {v0 v1 v2 v3:Value} (hb:Below w.heap.size w w') (h:C4_4 B w0 w a0 a1 a2 a3 b0 b1 b2 b3 v0 v1 v2 v3):((w'.cell? b0).isSome=true∧Sts w' b0.block)∧((w'.cell? b1).isSome=true∧Sts w' b1.block)∧((w'.cell? b2).isSome=true∧Sts w' b2.block)∧((w'.cell? b3).isSome=true∧Sts w' b3.block):=⟨SS.end_ (B:=B) (w0:=w0) (l:=[(a0,v0),(a1,v1),(a2,v2),(a3,v3)]) (m:=[b0,b1,b2,b3]) hb h (by simp),SS.end_ (B:=B) (w0:=w0) (l:=[(a0,v0),(a1,v1),(a2,v2),(a3,v3)]) (m:=[b0,b1,b2,b3]) hb h (by simp),SS.end_ (B:=B) (w0:=w0) (l:=[(a0,v0),(a1,v1),(a2,v2),(a3,v3)]) (m:=[b0,b1,b2,b3]) hb h (by simp),SS.end_ (B:=B) (w0:=w0) (l:=[(a0,v0),(a1,v1),(a2,v2),(a3,v3)]) (m:=[b0,b1,b2,b3]) hb h (by simp)⟩
theorem S4_4_put {B:Nat} {w0 w:World} {a0 a1 a2 a3 b0 b1 b2 b3:Addr} {v0 v1 v2 v3:Value} (h:C4_4 B w0 w a0 a1 a2 a3 b0 b1 b2 b3 v0 v1 v2 v3) {p0 p1 p2 p3:Addr} {u0 u1 u2 u3:Value} (hi0:NotInt u0) (hp0:B≤p0.block) (hn0_0:p0.block≠a0.block) (hn0_1:p0.block≠a1.block) (hn0_2:p0.block≠a2.block) (hn0_3:p0.block≠a3.block) (hi1:NotInt u1) (hp1:B≤p1.block) (hn1_0:p1.block≠a0.block) (hn1_1:p1.block≠a1.block) (hn1_2:p1.block≠a2.block) (hn1_3:p1.block≠a3.block) (hi2:NotInt u2) (hp2:B≤p2.block) (hn2_0:p2.block≠a0.block) (hn2_1:p2.block≠a1.block) (hn2_2:p2.block≠a2.block) (hn2_3:p2.block≠a3.block) (hi3:NotInt u3) (hp3:B≤p3.block) (hn3_0:p3.block≠a0.block) (hn3_1:p3.block≠a1.block) (hn3_2:p3.block≠a2.block) (hn3_3:p3.block≠a3.block):C4_4 B w0 ((((w.setCell p0 u0).setCell p1 u1).setCell p2 u2).setCell p3 u3) a0 a1 a2 a3 b0 b1 b2 b3 v0 v1 v2 v3:=(SS.put (B:=B) (w0:=w0) (l:=[(a0,v0),(a1,v1),(a2,v2),(a3,v3)]) (m:=[b0,b1,b2,b3]) (SS.put (B:=B) (w0:=w0) (l:=[(a0,v0),(a1,v1),(a2,v2),(a3,v3)]) (m:=[b0,b1,b2,b3]) (SS.put (B:=B) (w0:=w0) (l:=[(a0,v0),(a1,v1),(a2,v2),(a3,v3)]) (m:=[b0,b1,b2,b3]) (SS.put (B:=B) (w0:=w0) (l:=[(a0,v0),(a1,v1),(a2,v2),(a3,v3)]) (m:=[b0,b1,b2,b3]) h p0 u0 hi0 hp0 (by simp[*])) p1 u1 hi1 hp1 (by simp[*])) p2 u2 hi2 hp2 (by simp[*])) p3 u3 hi3 hp3 (by simp[*]))
abbrev C8_4 (B:Nat) (w0 w:World) (a0 a1 a2 a3 a4 a5 a6 a7 b0 b1 b2 b3:Addr) (v0 v1 v2 v3 v4 v5 v6 v7:Value):Prop:=w.cell? a0=some v0∧w.cell? a1=some v1∧w.cell? a2=some v2∧w.cell? a3=some v3∧w.cell? a4=some v4∧w.cell? a5=some v5∧w.cell? a6=some v6∧w.cell? a7=some v7∧w.cell? b0=some (cellOf w b0)∧w.frozen? b0=false∧Sts w b0.block∧w.cell? b1=some (cellOf w b1)∧w.frozen? b1=false∧Sts w b1.block∧w.cell? b2=some (cellOf w b2)∧w.frozen? b2=false∧Sts w b2.block∧w.cell? b3=some (cellOf w b3)∧w.frozen? b3=false∧Sts w b3.block∧Below B w0 w∧B≤w.heap.size
theorem S8_4_next {B:Nat} {w0 w w':World} {a0 a1 a2 a3 a4 a5 a6 a7 b0 b1 b2 b3:Addr} {v0 v1 v2 v3 v4 v5 v6 v7:Value} (hb:Below w.heap.size w w') (h:C8_4 B w0 w a0 a1 a2 a3 a4 a5 a6 a7 b0 b1 b2 b3 v0 v1 v2 v3 v4 v5 v6 v7):C8_4 B w0 w' a0 a1 a2 a3 a4 a5 a6 a7 b0 b1 b2 b3 v0 v1 v2 v3 v4 v5 v6 v7:=SS.next (B:=B) (w0:=w0) (l:=[(a0,v0),(a1,v1),(a2,v2),(a3,v3),(a4,v4),(a5,v5),(a6,v6),(a7,v7)]) (m:=[b0,b1,b2,b3]) hb h
theorem S8_4_below {B:Nat} {w0 w:World} {a0 a1 a2 a3 a4 a5 a6 a7 b0 b1 b2 b3:Addr} {v0 v1 v2 v3 v4 v5 v6 v7:Value} (h:C8_4 B w0 w a0 a1 a2 a3 a4 a5 a6 a7 b0 b1 b2 b3 v0 v1 v2 v3 v4 v5 v6 v7):Below B w0 w:=SS.below (B:=B) (w0:=w0) (l:=[(a0,v0),(a1,v1),(a2,v2),(a3,v3),(a4,v4),(a5,v5),(a6,v6),(a7,v7)]) (m:=[b0,b1,b2,b3]) h
theorem S8_4_end {B:Nat} {w0 w w':World} {a0 a1 a2 a3 a4 a5 a6 a7 b0 b1 b2 b3:Addr} {v0 v1 v2 v3 v4 v5 v6 v7:Value} (hb:Below w.heap.size w w') (h:C8_4 B w0 w a0 a1 a2 a3 a4 a5 a6 a7 b0 b1 b2 b3 v0 v1 v2 v3 v4 v5 v6 v7):((w'.cell? b0).isSome=true∧Sts w' b0.block)∧((w'.cell? b1).isSome=true∧Sts w' b1.block)∧((w'.cell? b2).isSome=true∧Sts w' b2.block)∧((w'.cell? b3).isSome=true∧Sts w' b3.block):=⟨SS.end_ (B:=B) (w0:=w0) (l:=[(a0,v0),(a1,v1),(a2,v2),(a3,v3),(a4,v4),(a5,v5),(a6,v6),(a7,v7)]) (m:=[b0,b1,b2,b3]) hb h (by simp),SS.end_ (B:=B) (w0:=w0) (l:=[(a0,v0),(a1,v1),(a2,v2),(a3,v3),(a4,v4),(a5,v5),(a6,v6),(a7,v7)]) (m:=[b0,b1,b2,b3]) hb h (by simp),SS.end_ (B:=B) (w0:=w0) (l:=[(a0,v0),(a1,v1),(a2,v2),(a3,v3),(a4,v4),(a5,v5),(a6,v6),(a7,v7)]) (m:=[b0,b1,b2,b3]) hb h (by simp),SS.end_ (B:=B) (w0:=w0) (l:=[(a0,v0),(a1,v1),(a2,v2),(a3,v3),(a4,v4),(a5,v5),(a6,v6),(a7,v7)]) (m:=[b0,b1,b2,b3]) hb h (by simp)⟩
theorem S8_4_put {B:Nat} {w0 w:World} {a0 a1 a2 a3 a4 a5 a6 a7 b0 b1 b2 b3:Addr} {v0 v1 v2 v3 v4 v5 v6 v7:Value} (h:C8_4 B w0 w a0 a1 a2 a3 a4 a5 a6 a7 b0 b1 b2 b3 v0 v1 v2 v3 v4 v5 v6 v7) {p0 p1 p2 p3:Addr} {u0 u1 u2 u3:Value} (hi0:NotInt u0) (hp0:B≤p0.block) (hn0_0:p0.block≠a0.block) (hn0_1:p0.block≠a1.block) (hn0_2:p0.block≠a2.block) (hn0_3:p0.block≠a3.block) (hn0_4:p0.block≠a4.block) (hn0_5:p0.block≠a5.block) (hn0_6:p0.block≠a6.block) (hn0_7:p0.block≠a7.block) (hi1:NotInt u1) (hp1:B≤p1.block) (hn1_0:p1.block≠a0.block) (hn1_1:p1.block≠a1.block) (hn1_2:p1.block≠a2.block) (hn1_3:p1.block≠a3.block) (hn1_4:p1.block≠a4.block) (hn1_5:p1.block≠a5.block) (hn1_6:p1.block≠a6.block) (hn1_7:p1.block≠a7.block) (hi2:NotInt u2) (hp2:B≤p2.block) (hn2_0:p2.block≠a0.block) (hn2_1:p2.block≠a1.block) (hn2_2:p2.block≠a2.block) (hn2_3:p2.block≠a3.block) (hn2_4:p2.block≠a4.block) (hn2_5:p2.block≠a5.block) (hn2_6:p2.block≠a6.block) (hn2_7:p2.block≠a7.block) (hi3:NotInt u3) (hp3:B≤p3.block) (hn3_0:p3.block≠a0.block) (hn3_1:p3.block≠a1.block) (hn3_2:p3.block≠a2.block) (hn3_3:p3.block≠a3.block) (hn3_4:p3.block≠a4.block) (hn3_5:p3.block≠a5.block) (hn3_6:p3.block≠a6.block) (hn3_7:p3.block≠a7.block):C8_4 B w0 ((((w.setCell p0 u0).setCell p1 u1).setCell p2 u2).setCell p3 u3) a0 a1 a2 a3 a4 a5 a6 a7 b0 b1 b2 b3 v0 v1 v2 v3 v4 v5 v6 v7:=(SS.put (B:=B) (w0:=w0) (l:=[(a0,v0),(a1,v1),(a2,v2),(a3,v3),(a4,v4),(a5,v5),(a6,v6),(a7,v7)]) (m:=[b0,b1,b2,b3]) (SS.put (B:=B) (w0:=w0) (l:=[(a0,v0),(a1,v1),(a2,v2),(a3,v3),(a4,v4),(a5,v5),(a6,v6),(a7,v7)]) (m:=[b0,b1,b2,b3]) (SS.put (B:=B) (w0:=w0) (l:=[(a0,v0),(a1,v1),(a2,v2),(a3,v3),(a4,v4),(a5,v5),(a6,v6),(a7,v7)]) (m:=[b0,b1,b2,b3]) (SS.put (B:=B) (w0:=w0) (l:=[(a0,v0),(a1,v1),(a2,v2),(a3,v3),(a4,v4),(a5,v5),(a6,v6),(a7,v7)]) (m:=[b0,b1,b2,b3]) h p0 u0 hi0 hp0 (by simp[*])) p1 u1 hi1 hp1 (by simp[*])) p2 u2 hi2 hp2 (by simp[*])) p3 u3 hi3 hp3 (by simp[*]))
theorem Zr.letters {w:World} {s:Bool} {p:Option Addr} {n c:Nat} {z:Int} (h:Zr w s p n c z) (hn:n≤35184372088830):
  ∃ k,k≤n∧nd z.natAbs=k∧RowKit.Hid (sg s z.natAbs=z∧Nm w p c z.natAbs∧(∀ w1,Below w.heap.size w w1→Calls Tryz.prog 129 #[.slice p n c] w1 fun e w'=>e=.returned (.slice p k c)∧w'=w1)):=by
 obtain⟨a,hd,hz⟩:=h
 have ha:z.natAbs=vf a n:=by rw[← hz,sg_abs]
 refine⟨nd z.natAbs,?_,rfl,?_,?_,?_⟩
 ·rw[ha];exact nd_le.2 (vf_lt hd.lt)
 ·rw[ha];exact hz
 ·rw[ha];exact hd.trim
 ·intro w1 hb
  refine(c_trimmed p c n a w1 (hd.keep hb) (by omega)).mono ?_
  rintro e w' ⟨⟨h1,_⟩,h2⟩
  exact⟨by rw[ha];exact h1,h2⟩
theorem signed_nm (neg:Bool) (p:Option Addr) (c n u:Nat) (w:World) (h:Nm w p c u) (hu:nd u=n) (hn:n≤70368744177664):
  Calls Tryz.prog 131 #[.bool neg,.slice p n c] w fun e w'=>RetZ w' e (sg neg u)∧Below w.heap.size w w':=by
 subst hu
 have h1:=c_signed neg p c (nd u) (dg u) w h hn
 rw[vf_nd]at h1
 exact h1
theorem cnx {w w':World} {a:Addr} {v:Value} (hb:Below w.heap.size w w') (h:w.cell? a=some v):w'.cell? a=some v:=(hb.cell (p:=a) (World.block_lt_of_cell? w a h)).trans h
section
variable {P:Program} {md:Region.Mode} {ops:Array Oper} {Q:Exit→Act→World→Prop} {S:World→Prop}
def fullE (ops:Array Oper) (listed:Array Bool):Bool:=(List.range ops.size).all fun k=>listed.getD k true
def waitE (md:Region.Mode) (ops:Array Oper) (listed:Array Bool) (i:Nat):Bool:=
 (List.range ops.size).any fun k=>k != i && !(listed.getD k true)&&match ops[k]? with
  | some o=>o.after.any fun e=>Region.binds md e&&e.on==i
  | none=>false
theorem not_full {listed:Array Bool} {k:Nat} (hk:k<ops.size) (h:listed.getD k true=false):fullE ops listed=false:=by
 cases e:fullE ops listed with
 | false=>rfl
 | true=>
  rw[fullE,List.all_eq_true]at e
  have h1:=e k (List.mem_range.2 hk)
  rw[h]at h1
  cases h1
def wpE (P:Program) (md:Region.Mode) (ops:Array Oper) (Q:Exit→Act→World→Prop) (S:World→Prop):Nat→Array Bool→Act→World→Prop
 | 0,listed,a,w=>Region.ready md ops listed=[]∧Q .normal a w
 | n+1,listed,a,w=>(Region.ready md ops listed=[]→Q .normal a w) ∧
  ∀ i∈Region.ready md ops listed,wpOp P ops Q i (fun a' w'=>(fullE ops (listed.setIfInBounds i true)=false→S w')∧wpE P md ops Q S n (listed.setIfInBounds i true) a' w') a w
theorem wpE.any:∀ (n:Nat) (listed:Array Bool) (a:Act) (w:World),wpE P md ops Q S n listed a w→wpAny P md ops Q n listed a w
 | 0,_,_,_,h=>h
 | n+1,_,_,_,h=>⟨h.1,fun i hi=>wpOp_mono (fun a' w' h'=>wpE.any n _ a' w' h'.2) (h.2 i hi)⟩
theorem wpE.first {i k:Nat} {oi ok:Oper} {v:Value} (hi:ops[i]?=some oi) (hk:ops[k]?=some ok) (hki:k≠i) (hw:∃ e∈ok.after,Region.binds md e=true∧e.on=i)
  (hsel:∀ (j:Nat) (o:Oper) cs b,ops[j]?=some o→o.op≠.select cs b) (hQ:∀ c a w,Q (.panic c) (a.put oi.dst v) w→Q (.panic c) a w):
  ∀ (n:Nat) (listed:Array Bool) (a:Act) (w:World),
   (∀ j oj,ops[j]?=some oj→j≠i→listed.getD j true=false→(∀ e∈oj.after,Region.binds md e=true→e.on≠i)→oi.apart ops oj=true) →
   listed.getD k true=false→i∈Region.ready md ops listed→YieldsIf P ops S oi v a→S w →
   wpE P md ops Q S n (listed.setIfInBounds i true) (a.put oi.dst v) w→wpE P md ops Q S (n+1) listed a w:=by
 intro n
 induction n with
 | zero=>
  intro listed a w _ _ hr hy hS H
  refine⟨(fun h=>by rw[h]at hr;cases hr),fun j hj=>?_⟩
  by_cases hji:j=i
  ·subst hji;exact hy.wpOp hi hS ⟨fun _=>hS,H⟩
  ·have h1:=ready_mono hj hji
   rw[H.1]at h1
   cases h1
 | succ n ih=>
  intro listed a w hfree hkl hr hy hS H
  refine⟨(fun h=>by rw[h]at hr;cases hr),fun j hj=>?_⟩
  by_cases hji:j=i
  ·subst hji;exact hy.wpOp hi hS ⟨fun _=>hS,H⟩
  have h1:=H.2 j (ready_mono hj hji)
  obtain⟨hjl,oj,hoj,hall⟩:=mem_ready.1 hj
  have hin:listed.getD i false=false:=by
   have h0:=(mem_ready.1 hr).1
   rcases Nat.lt_or_ge i listed.size with h2|h2
   ·simp[h2]at h0 ⊢;exact h0
   ·simp[Array.getElem?_eq_none h2]
  have hno:∀ e∈oj.after,Region.binds md e=true→e.on≠i:=fun e he hb h2=>by
   have h3:=hall e he hb
   rw[h2,hin]at h3
   cases h3
  have hjk:j≠k:=fun h2=>by
   subst h2
   rw[hoj]at hk
   cases hk
   obtain⟨e,he,hb,h3⟩:=hw
   exact hno e he hb h3
  have hnf:∀ l:Array Bool,l.getD k true=false→fullE ops l=false:=fun l hl=>not_full (Array.getElem?_eq_some_iff.1 hk).1 hl
  have hkl2:(listed.setIfInBounds j true).getD k true=false:=by rw[getD_set_ne true hjk];exact hkl
  have h2:=wpOp_putIf hoj (hfree j oj hoj hji hjl hno) (fun cs b=>hsel i oi cs b hi) (fun cs b=>hsel j oj cs b hoj) hQ hy h1
  refine wpOp_mono (fun a' w' h3=>?_) h2
  have hS':S w':=h3.2.1 (hnf _ (by rw[getD_set_ne true hjk,getD_set_ne true hki.symm];exact hkl))
  refine⟨fun _=>hS',ih _ a' w' (fun q oq hq hqi hql hqn=>hfree q oq hq hqi ?_ hqn) hkl2 (ready_mono hr (Ne.symm hji)) h3.1 hS' ?_⟩
  ·by_cases hjq:j=q
   ·subst hjq;exact hjl
   ·rw[getD_set_ne true hjq]at hql;exact hql
  ·rw[Array.setIfInBounds_comm _ _ hji]
   exact h3.2.2
theorem waitE_spec {listed:Array Bool} {i:Nat} (h:waitE md ops listed i=true):∃ k ok,ops[k]?=some ok∧k≠i∧listed.getD k true=false∧∃ e∈ok.after,Region.binds md e=true∧e.on=i:=by
 rw[waitE,List.any_eq_true]at h
 obtain⟨k,_,h⟩:=h
 cases hk:ops[k]? with
 | none=>rw[hk]at h;simp at h
 | some o=>
  rw[hk]at h
  simp only[Bool.and_eq_true,bne_iff_ne,ne_eq,Bool.not_eq_true',beq_iff_eq,Array.any_eq_true']at h
  obtain⟨⟨h1,h2⟩,e,h3,h4,h5⟩:=h
  exact⟨k,o,hk,h1,h2,e,h3,h4,h5⟩
theorem rgE {id:Nat} {a:Act} {w:World} (S:World→Prop) (hS:S w.drew) (h:S w.drew→wpE P .any ops Q S ops.size (Array.replicate ops.size false) a w.drew) (hm:P.follows .mixedOrders=true:=by kernel_rfl):(Code.region id ops true).wp P Q a w:=
 wp_region_any hm (wpE.any _ _ _ _ (h hS))
theorem rgB {id:Nat} {a:Act} {w:World} (S:World→Prop) (hS:∀ W,Below w.heap.size w W→S W) (h:Hid (∀ W,Below w.heap.size w W→S W)→S w.drew→wpE P .any ops Q S ops.size (Array.replicate ops.size false) a w.drew) (hm:P.follows .mixedOrders=true:=by kernel_rfl):(Code.region id ops true).wp P Q a w:=
 rgE S (hS _ (Below.refl _ w).drew) (h (Lib.hid hS)) hm
theorem tkE (i:Nat) {oi:Oper} {v:Value} {n d:Nat} {listed:Array Bool} {a a':Act} {w:World} (h:wpE P md ops Q S n (listed.setIfInBounds i true) a' w)
  (hi:ops[i]?=some oi:=by rfl) (hS:S w:=by assumption) (hw:Region.wanted oi (yielded ops a.tmps)=true:=by rfl)
  (hy:∀ w,S w→(execOp a.eval oi).run P w=.ok (.value v) w:=by intro w hSw;(try dsimp only at hSw);go_simp;(try with_reducible rfl))
  (hd:oi.dst=some d:=by rfl) (ha:a.put (some d) v=a':=by(try simp only[Act.put,List.setIfInBounds_toArray,List.set_cons_zero,List.set_cons_succ]);rfl)
  (hs:Region.noSelect ops=true:=by kernel_rfl) (hf:Region.free md ops listed i=true:=by kernel_rfl) (hr:(Region.ready md ops listed).contains i=true:=by kernel_rfl) (hk:waitE md ops listed i=true:=by kernel_rfl)
  (hQ:∀ c a w,Q (.panic c) (a.put oi.dst v) w→Q (.panic c) a w:=by exact fun _ _ _ h=>h):wpE P md ops Q S (n+1) listed a w:=by
 subst ha
 rw[← hd]at h
 obtain⟨k,ok,h1,h2,h3,h4⟩:=waitE_spec hk
 exact wpE.first hi h1 h2 h4 (Region.noSelect_spec hs) hQ n listed a w (Region.free_spec hi hf) h3 (by simpa using hr) (.inl ⟨hw,hy⟩) hS h
theorem stE (i:Nat) {o:Oper} {n:Nat} {listed:Array Bool} {a:Act} {w:World}
  (ho:ops[i]?=some o) (h:∀ K':Act→World→Prop,Shut (∀ a w,S w→(S w→wpE P md ops Q S n (listed.setIfInBounds i true) a w)→K' a w)→if Region.wanted o (yielded ops a.tmps)=true then Oper.wp P o a w K' Q else K' (a.put o.dst undef) w)
  (hr:Region.ready md ops listed=[i]:=by kernel_rfl):wpE P md ops Q S (n+1) listed a w:=by
 refine⟨(fun e=>by rw[hr]at e;cases e),fun j hj=>?_⟩
 rw[hr,List.mem_singleton]at hj
 subst hj
 refine wpOp_step ho fun K' hK=>?_
 exact h K' fun a w hS hW=>hK a w ⟨fun _=>hS,hW hS⟩
theorem laE (i:Nat) {o:Oper} {n:Nat} {listed:Array Bool} {a:Act} {w:World}
  (ho:ops[i]?=some o) (h:∀ K':Act→World→Prop,Shut (∀ a w,Q .normal a w→K' a w)→if Region.wanted o (yielded ops a.tmps)=true then Oper.wp P o a w K' Q else K' (a.put o.dst undef) w)
  (hr:Region.ready md ops listed=[i]:=by kernel_rfl)
  (hn:Region.ready md ops (listed.setIfInBounds i true)=[]:=by kernel_rfl) (hl:fullE ops (listed.setIfInBounds i true)=true:=by kernel_rfl):wpE P md ops Q S (n+1) listed a w:=by
 refine⟨(fun e=>by rw[hr]at e;cases e),fun j hj=>?_⟩
 rw[hr,List.mem_singleton]at hj
 subst hj
 refine wpOp_step ho fun K' hK=>?_
 refine h K' fun a w hq=>hK a w ⟨(fun e=>by rw[hl]at e;cases e),?_⟩
 cases n with
 | zero=>exact⟨hn,hq⟩
 | succ n=>exact⟨fun _=>hq,fun j hj=>by rw[hn]at hj;cases hj⟩
end
theorem lsa {α:Type _} (l:List α) (i:Nat) (v:α):l.toArray.setIfInBounds i v=(l.set i v).toArray:=List.setIfInBounds_toArray ..
theorem lsz {α:Type _} (a v:α) (l:List α):(a :: l).set 0 v=v :: l:=List.set_cons_zero
theorem lss {α:Type _} (a v:α) (l:List α) (n:Nat):(a :: l).set (n+1) v=a :: l.set n v:=List.set_cons_succ
end Go.Proofs.YtenlbhlllgppmaaGreatDoor
