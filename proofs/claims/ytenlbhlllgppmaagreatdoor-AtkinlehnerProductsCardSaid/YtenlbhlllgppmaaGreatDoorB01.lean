/- Small lemmas on numbers, endings and worlds that all walks of this seat share. -/
import Derived.Test.YtenlbhlllgppmaaGreatDoorChecked
import Derived.WalkLawsBesides
import Derived.WalkSpells
import Derived.Handy
import Derived.BigQuiet
import Derived.BigGuardPart
import Derived.Deep.RegionHeld3
import Derived.Deep.DeepCutAuto
import Derived.StillTailTactics
import Derived.Laws.CopyOwn
import Derived.Lib.Hide
namespace Go.Proofs.YtenlbhlllgppmaaGreatDoor
open Go.RowKit
structure Hd (p:Prop):Prop where
 o:p
theorem nR (n:Nat):n≤n:=Nat.le_refl n
theorem nS {n m k:Nat} (a:n≤m) (b:m≤k):n≤k:=Nat.le_trans a b
theorem nT {n m k:Nat} (a:n<m) (b:m≤k):n<k:=Nat.lt_of_lt_of_le a b
theorem nU (n:Nat):n<n.succ:=Nat.lt_succ_self n
theorem nV {α:Type _} {x:Option α} (h:x.isSome=true):∃ a,x=some a:=Option.isSome_iff_exists.1 h
theorem A5 {k:IntKind} {a b:Int} (h:a=b):Ending.returned (.int k a)=.returned (.int k b):=by rw[h]
theorem C7 {a b:Bool} (h:a=b):Ending.returned (.bool a)=.returned (.bool b):=by rw[h]
theorem Jd {k:IntKind} {a b:Int} (h:a=b):Value.int k a=.int k b:=by rw[h]
theorem aL {a b:Bool} (h:a=b):Value.bool a=.bool b:=by rw[h]
theorem L7 (w:World) (a b:Nat):(w.drewN a).drewN b=w.drewN (a+b):=World.drewN_drewN _ _ _
theorem Pt (x y:Int) (h:y≠0):Int.gcd y (x.tmod y)=Int.gcd x y/\(x.tmod y).natAbs<y.natAbs:=by
 constructor
 ·rw[Int.gcd_comm x y]
  simp only[Int.gcd,Int.natAbs_tmod];rw[Nat.gcd_comm,<-Nat.gcd_rec]
 ·rw[Int.natAbs_tmod];exact Nat.mod_lt _ (by omega)
theorem Pu (x:Int):((Int.gcd x 0:Nat):Int)=if x<0 then -x else x:=by
 rw[Int.gcd_zero_right];split <;> omega
theorem Bm {w w':World} (h:∃n,w'=w.drewN n):Below w.heap.size w w':=by
 obtain⟨n,rfl⟩:=h;exact⟨rfl,rfl,rfl,Nat.le_refl _,λ_ _=>rfl⟩
theorem Aa {B:Nat} {a w:World} (h:Below B a w) (n:Nat):Below B a (w.drewN n):=⟨h.os,h.tape,h.output,h.size,h.block⟩
def Blk (w:World) (g:Nat) (t:TypeId) (cs:Array Value):Prop:=w.heap[g]?=some (.cells cs t (0,0))
section
variable {w w':World} {g:Nat} {t:TypeId} {cs:Array Value}
theorem Blk.lt (h:Blk w g t cs):g<w.heap.size:=by
 rcases Nat.lt_or_ge g w.heap.size with hlt|I
 ·exact hlt
 ·unfold Blk at h;rw[Array.getElem?_eq_none I]at h;cases h
theorem Blk.cell_ (h:Blk w g t cs) (i:Nat):w.cell? ⟨g,i,none⟩=cs[i]?:=cell_of_row w g i cs t (0,0) h
theorem Blk.at_ (h:Blk w g t cs) (i:Nat) {v:Value} (I:cs[i]?=some v):w.cell? ⟨g,i,none⟩=some v:=(h.cell_ i).trans I
theorem Blk.free_ (h:Blk w g t cs) (i:Nat):w.frozen? ⟨g,i,none⟩=false:=by
 unfold Blk at h;simp[World.frozen?,h]
theorem Blk.new (w:World) (t:TypeId) (cs:Array Value):Blk (w.alloc (.cells cs t)) w.heap.size t cs:=heap_alloc_new w _
theorem Blk.drewN_ (h:Blk w g t cs) (n:Nat):Blk (w.drewN n) g t cs:=h
theorem Blk.drew_ (h:Blk w g t cs):Blk w.drew g t cs:=h
theorem Blk.alloc_ (h:Blk w g t cs) (o:Obj):Blk (w.alloc o) g t cs:=(Below.heap_alloc w o g h.lt).trans h
theorem Blk.set_ (h:Blk w g t cs) (i:Nat) (u:Value):Blk (w.setCell ⟨g,i,none⟩ u) g t (cs.setIfInBounds i u):=by
 unfold Blk at h ⊢;simp[World.setCell,Array.getElem?_modify,h]
theorem Blk.far_ (h:Blk w g t cs) {p:Addr} (I:g≠p.block) (u:Value):Blk (w.setCell p u) g t cs:=(Below.heap_setCell w p u g I).trans h
theorem Blk.below_ {B:Nat} (h:Blk w g t cs) (I:Below B w w') (hg:g<B):Blk w' g t cs:=(I.block g hg).trans h
theorem Blk.grown_ {row:Option Nat} (h:Blk w g t cs) (I:w.grownBy w' row) (hg:some g≠row):Blk w' g t cs:=(I.block g h.lt hg).trans h
end
/-! Rows of the call's own -/
theorem D4 {W w':World} {o:Obj} {row:Option Nat} (h:(W.alloc o).grownBy w' row):W.grownBy w' row:=
 ⟨h.os,h.tape,h.output,Nat.le_trans (by simp) h.size,λi J I=>(h.block i (by simp;omega) I).trans (Below.heap_alloc W o i J)⟩
theorem Q1 {P:Program} {W:World} {bA:Array Oper} {rest:List Oper} {o:Oper} {a:Act} {Q:Exit->Act->World->Prop} (bB:o.guard=none) (s x:Operand) (t E:TypeId)
  (ho:o.op=.call { callee:=.builtin .append,args:=#[s,x],argTypes:=#[t,t] }) {z:Value} {V J:Nat} (hU:P.underlying t=some (.slice E))
  (U:(P.info? E).map (λi=>(i.zero,i.size,i.bytes))=some (some z,V,J)) (cB:z.cells.size=V) (bC:0<V) (B n:Nat) (v:Value) (xs I:List Value)
  (hs:a.eval s=v) (aX:W.ownsRow B E V v n xs) (hx:a.eval x=.slice (some ⟨W.heap.size,0,none⟩) 1 1) (hn:I.length=V) (h1:∀u∈I,u.oneCell'=true)
  (hb:(n+1)*J<=140737488355328) (hm:n+1<=9223372036854775807) (hB:B<=W.heap.size)
  (h:∀Y w',w'.ownsRow B E V Y (n+1) (xs++I)->W.grownBy w' v.ownBlock->(Y.ownBlock=v.ownBlock∨Y.ownBlock=some (W.heap.size+1))->wpList P bA Q rest (a.put o.dst Y) w'):
  wpList P bA Q (o :: rest) a (W.alloc (.cells I.toArray E)):=by
 obtain⟨i0,hi,bE,bY,cA⟩:=info_parts U
 have O:∀(j:Nat) (u:Value),I[j]?=some u->(W.alloc (.cells I.toArray E)).cell? ((⟨W.heap.size,0,none⟩:Addr).add j)=some u:=by
  intro j u hu;have hc:=(Blk.new W E I.toArray).cell_ j
  have e:(⟨W.heap.size,0,none⟩:Addr).add j=⟨W.heap.size,j,none⟩:=by
   unfold Addr.add;split
   ·rename_i h0;rw[h0]
   ·simp
  rw[e,hc]
  simpa using hu
 refine wpList_append_own_at _ bB s x t ho B E i0 z V J hU hi bE bY cA cB bC v n xs hs (aX.alloc _) ⟨W.heap.size,0,none⟩ 1 1 I hx (by omega) O h1 hm hb (by simp;omega) ?_;intro Y w' g1 g2 _ Z;refine h Y w' g1 (D4 g2) ?_;rcases Z with Z|Z
 ·exact .inl Z
 ·exact .inr (by rw[Z];simp)
theorem M0 {w:World} {B E O n:Nat} {v:Value} {U:List Value} (h:w.ownsRow B E O v n U):v.ownBlock=none∨∃g cs,v.ownBlock=some g/\B<=g/\Blk w g E cs:=by
 rcases h.2 with⟨rfl,_⟩ |⟨g,cap,I,rfl,hB,J,_⟩
 ·exact .inl rfl
 ·exact .inr ⟨g,I,rfl,hB,J⟩
theorem A7 {w W w':World} {B B' E V n:Nat} {v:Value} {Y:List Value} (O:Below B w W) (h:W.ownsRow B' E V v n Y) (hg:W.grownBy w' v.ownBlock) (I:B<=B') (J:B<=W.heap.size):Below B w w':=
 O.grown hg J (λk U=>Nat.le_trans I (h.lt k U).1)
theorem Lc {W w':World} {B E J n:Nat} {v:Value} {O:List Value} (h:W.ownsRow B E J v n O) (I:Below W.heap.size W w'):w'.ownsRow B E J v n O:=
 h.kept (row:=none) ⟨I.os,I.tape,I.output,I.size,λk U _=>I.block k U⟩ (by
  cases hv:v.ownBlock with
  | none=>exact .inl rfl
  | some g=>exact .inr (by simp))
theorem An {w:World} {B E U g n cap:Nat} {I:List Value} (h:w.ownsRow B E U (.slice (some ⟨g,0,none⟩) n cap) n I) {j:Nat} {u:Value} (O:I[j]?=some u):w.cell? ⟨g,j,none⟩=some u:=by
 have V:I.length=n*U:=h.1
 have hlt:j<n*U:=by
  rw[<-V];rcases Nat.lt_or_ge j I.length with hlt|J
  ·exact hlt
  ·rw[List.getElem?_eq_none J]at O;cases O
 rw[h.cellAt j hlt];exact O
theorem De {w:World} {B E U n:Nat} {v:Value} {I:List Value} (h:w.ownsRow B E U v n I):(v=.slice none 0 0/\n=0/\I=[])∨∃g cap,v=.slice (some ⟨g,0,none⟩) n cap/\B<=g/\g<w.heap.size/\n<=cap:=by
 rcases h.2 with⟨rfl,rfl⟩ |⟨g,cap,J,rfl,hB,O,hn,_⟩
 ·exact .inl ⟨rfl,rfl,List.eq_nil_of_length_eq_zero (by simpa using h.1)⟩
 ·exact .inr ⟨g,cap,rfl,hB,Blk.lt (t:=E) O,hn⟩
theorem bt {w I J:World} (h:Hd (Below w.heap.size w I)) (O:Below I.heap.size I J):Hd (Below w.heap.size w J):=Hd.mk (h.1.trans (O.mono h.1.size))
theorem bk {w w':World} {g:Nat} {t:TypeId} {c:Array Value} (h:Hd (Blk w g t c)) (I:Below w.heap.size w w'):Blk w' g t c:=h.1.below_ I h.1.lt
theorem Kh {p:Prop} (h:p):Hd p:=Hd.mk h
end Go.Proofs.YtenlbhlllgppmaaGreatDoor
