/- Contracts of the two functions that list the matrices of T_n. -/
import Derived.Test.YtenlbhlllgppmaaGreatDoorK05
import Derived.Test.YtenlbhlllgppmaaGreatDoorK07
set_option maxRecDepth 100000
set_option maxHeartbeats 8000000
namespace Go.Proofs.YtenlbhlllgppmaaGreatDoor
open Go.RowKit
def matc (x:Pl.Cos):List Value:=[.int .i64 x.1.1,.int .i64 x.1.2.1,.int .i64 0,.int .i64 x.1.2.2]
def facc (x:Pl.Cos):List Value:=[.int .i64 x.2]
structure Two (w:World) (B:Nat) (v1 v2:Value) (L:List Pl.Cos):Prop where
 mats:w.ownsRow B 63 4 v1 L.length (L.flatMap matc)
 facs:w.ownsRow B 3 1 v2 L.length (L.flatMap facc)
theorem Two.keep {w w':World} {B:Nat} {v1 v2:Value} {L:List Pl.Cos} (h:Two w B v1 v2 L) (hb:Below w.heap.size w w'):Two w' B v1 v2 L:=⟨own_keep h.mats hb,own_keep h.facs hb⟩
def Rd (w:World) (sz:Nat) (v:Value) (n:Nat) (xs:List Value):Prop:=
 xs.length=n*sz∧((n=0∧∃ a c,v=.slice a 0 c)∨∃ g o cap,v=.slice (some ⟨g,o,none⟩) n cap∧g<w.heap.size∧∀ j u,xs[j]?=some u→w.cell? ⟨g,o+j,none⟩=some u)
theorem Rd.of_own {w:World} {B E sz n:Nat} {v:Value} {xs:List Value} (h:w.ownsRow B E sz v n xs):Rd w sz v n xs:=by
 refine⟨h.1,?_⟩
 rcases own_shape h with⟨rfl,rfl,_⟩ |⟨g,cap,rfl,_,hg,_⟩
 ·exact .inl ⟨rfl,_,_,rfl⟩
 ·exact .inr ⟨g,0,cap,rfl,hg,fun j u hj=>by rw[Nat.zero_add];exact own_read h hj⟩
theorem Rd.keep {w w':World} {sz n:Nat} {v:Value} {xs:List Value} (h:Rd w sz v n xs) (hb:Below w.heap.size w w'):Rd w' sz v n xs:=by
 refine⟨h.1,?_⟩
 rcases h.2 with h1 |⟨g,o,cap,e,hg,hc⟩
 ·exact .inl h1
 ·exact .inr ⟨g,o,cap,e,Nat.lt_of_lt_of_le hg hb.size,fun j u hj=>(hb.cell (p:=⟨g,o+j,none⟩) hg).trans (hc j u hj)⟩
theorem flat_at {α:Type} (f:α→List Value) (sz:Nat) (hf:∀ x,(f x).length=sz) (l:List α) (k:Nat) (h:k<l.length) (i:Nat) (hi:i<sz):(l.flatMap f)[k*sz+i]?=(f l[k])[i]?:=by
 induction l generalizing k with
 | nil=>simp at h
 | cons x l ih=>
  rw[List.flatMap_cons]
  cases k with
  | zero=>rw[Nat.zero_mul,Nat.zero_add,List.getElem?_append_left (by rw[hf];exact hi)];rfl
  | succ k=>
   rw[List.getElem?_append_right (by rw[hf,Nat.succ_mul];omega),hf,show(k+1)*sz+i - sz=k*sz+i from by rw[Nat.succ_mul];omega,ih k (by simpa using h)]
   rfl
theorem Rd.cells {α:Type} {w:World} {sz g o:Nat} {f:α→List Value} {l:List α} (hf:∀ x,(f x).length=sz) (hc:∀ j u,(l.flatMap f)[j]?=some u→w.cell? ⟨g,o+j,none⟩=some u) {k:Nat} (h:k<l.length) {i:Nat} {u:Value} (hu:(f l[k])[i]?=some u):
  w.cell? ⟨g,o+(k*sz+i),none⟩=some u:=by
 refine hc _ _ ?_
 have hi:i<sz:=by
  rw[← hf l[k]]
  rcases Nat.lt_or_ge i (f l[k]).length with hlt|hge
  ·exact hlt
  ·rw[List.getElem?_eq_none hge]at hu;cases hu
 rw[flat_at f sz hf l k h i hi];exact hu
end Go.Proofs.YtenlbhlllgppmaaGreatDoor
