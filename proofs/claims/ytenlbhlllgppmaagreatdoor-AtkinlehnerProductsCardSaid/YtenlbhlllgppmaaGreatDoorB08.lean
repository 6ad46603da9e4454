/- Contracts of the two functions that list the matrices of T_n. -/
import Derived.Test.YtenlbhlllgppmaaGreatDoorB05
import Derived.Test.YtenlbhlllgppmaaGreatDoorB07
set_option maxRecDepth 100000
set_option maxHeartbeats 8000000
namespace Go.Proofs.YtenlbhlllgppmaaGreatDoor
open Go.RowKit
def matc (x:Pl.Cos):List Value:=[.int .i64 x.1.1,.int .i64 x.1.2.1,.int .i64 0,.int .i64 x.1.2.2]
def facc (x:Pl.Cos):List Value:=[.int .i64 x.2]
structure Two (w:World) (B:Nat) (v1 v2:Value) (L:List Pl.Cos):Prop where
 mats:w.ownsRow B 63 4 v1 L.length (L.flatMap matc)
 facs:w.ownsRow B 3 1 v2 L.length (L.flatMap facc)
theorem Two.keep {w w':World} {B:Nat} {v1 v2:Value} {L:List Pl.Cos} (h:Two w B v1 v2 L) (I:Below w.heap.size w w'):Two w' B v1 v2 L:=⟨Lc h.mats I,Lc h.facs I⟩
def Rd (w:World) (sz:Nat) (v:Value) (n:Nat) (xs:List Value):Prop:=
 xs.length=n*sz/\((n=0/\∃a c,v=.slice a 0 c)∨∃g o cap,v=.slice (some ⟨g,o,none⟩) n cap/\g<w.heap.size/\∀j u,xs[j]?=some u->w.cell? ⟨g,o+j,none⟩=some u)
theorem Rd.of_own {w:World} {B E I n:Nat} {v:Value} {J:List Value} (h:w.ownsRow B E I v n J):Rd w I v n J:=by
 refine⟨h.1,?_⟩;rcases De h with⟨rfl,rfl,_⟩ |⟨g,cap,rfl,_,hg,_⟩
 ·exact .inl ⟨rfl,_,_,rfl⟩
 ·exact .inr ⟨g,0,cap,rfl,hg,λj u O=>by rw[Nat.zero_add];exact An h O⟩
theorem Rd.keep {w w':World} {J n:Nat} {v:Value} {O:List Value} (h:Rd w J v n O) (I:Below w.heap.size w w'):Rd w' J v n O:=by
 refine⟨h.1,?_⟩;rcases h.2 with U |⟨g,o,cap,e,hg,V⟩
 ·exact .inl U
 ·exact .inr ⟨g,o,cap,e,nT hg I.size,λj u Y=>(I.cell (p:=⟨g,o+j,none⟩) hg).trans (V j u Y)⟩
theorem cZ {O:Type} (f:O->List Value) (I:Nat) (J:∀x,(f x).length=I) (l:List O) (k:Nat) (h:k<l.length) (i:Nat) (U:i<I):(l.flatMap f)[k*I+i]?=(f l[k])[i]?:=by
 induction l generalizing k with
 | nil=>simp at h
 | cons x l ih=>
  rw[List.flatMap_cons];cases k with
  | zero=>rw[Nat.zero_mul,Nat.zero_add,List.getElem?_append_left (by rw[J];exact U)];rfl
  | succ k=>
   rw[List.getElem?_append_right (by rw[J,Nat.succ_mul];omega),J,show(k+1)*I+i - I=k*I+i from by rw[Nat.succ_mul];omega,ih k (by simpa using h)];rfl
theorem Rd.cells {V:Type} {w:World} {I g o:Nat} {f:V->List Value} {l:List V} (U:∀x,(f x).length=I) (Y:∀j u,(l.flatMap f)[j]?=some u->w.cell? ⟨g,o+j,none⟩=some u) {k:Nat} (h:k<l.length) {i:Nat} {u:Value} (O:(f l[k])[i]?=some u):
  w.cell? ⟨g,o+(k*I+i),none⟩=some u:=by
 refine Y _ _ ?_
 have Z:i<I:=by
  rw[<-U l[k]];rcases Nat.lt_or_ge i (f l[k]).length with hlt|J
  ·exact hlt
  ·rw[List.getElem?_eq_none J]at O;cases O
 rw[cZ f I U l k h i Z];exact O
end Go.Proofs.YtenlbhlllgppmaaGreatDoor
