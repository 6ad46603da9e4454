/- Small lemmas on numbers, endings and worlds that all walks of this seat share. -/
import Derived.Test.YtenlbhlllgppmaaGreatDoorChecked
import Derived.WalkLawsBesides
import Derived.WalkSpells
import Derived.Handy
import Derived.BigQuiet
import Derived.BigGuardPart
import Derived.Deep.RegionHeld3
import Derived.Deep.DeepCutAuto
import Derived.StillTailTactics
import Derived.Laws.CopyOwn
import Derived.Lib.Hide
namespace Go.Proofs.YtenlbhlllgppmaaGreatDoor
open Go.RowKit
structure Hd (p:Prop):Prop where
 o:p
theorem kT (n:Nat):n≤n:=Nat.le_refl n
theorem kU {n m k:Nat} (a:n≤m) (b:m≤k):n≤k:=Nat.le_trans a b
theorem kV {n m k:Nat} (a:n<m) (b:m≤k):n<k:=Nat.lt_of_lt_of_le a b
theorem kW (n:Nat):n<n.succ:=Nat.lt_succ_self n
theorem kX {α:Type _} {x:Option α} (h:x.isSome=true):∃ a,x=some a:=Option.isSome_iff_exists.1 h
theorem A3 {k:IntKind} {a b:Int} (h:a=b):Ending.returned (.int k a)=.returned (.int k b):=by rw[h]
theorem Ca {a b:Bool} (h:a=b):Ending.returned (.bool a)=.returned (.bool b):=by rw[h]
theorem Is {k:IntKind} {a b:Int} (h:a=b):Value.int k a=.int k b:=by rw[h]
theorem Yy {a b:Bool} (h:a=b):Value.bool a=.bool b:=by rw[h]
theorem Ly (w:World) (a b:Nat):(w.drewN a).drewN b=w.drewN (a+b):=World.drewN_drewN _ _ _
theorem O3 (x y:Int) (h:y≠0):Int.gcd y (x.tmod y)=Int.gcd x y/\(x.tmod y).natAbs<y.natAbs:=by
 constructor
 ·rw[Int.gcd_comm x y]
  simp only[Int.gcd,Int.natAbs_tmod];rw[Nat.gcd_comm,<-Nat.gcd_rec]
 ·rw[Int.natAbs_tmod];exact Nat.mod_lt _ (by omega)
theorem O4 (x:Int):((Int.gcd x 0:Nat):Int)=if x<0 then -x else x:=by
 rw[Int.gcd_zero_right];split <;> omega
theorem Bi {w w':World} (h:∃n,w'=w.drewN n):Below w.heap.size w w':=by
 obtain⟨n,rfl⟩:=h;exact⟨rfl,rfl,rfl,Nat.le_refl _,λ_ _=>rfl⟩
theorem Aa {B:Nat} {a w:World} (h:Below B a w) (n:Nat):Below B a (w.drewN n):=⟨h.os,h.tape,h.output,h.size,h.block⟩
def Blk (w:World) (g:Nat) (t:TypeId) (cs:Array Value):Prop:=w.heap[g]?=some (.cells cs t (0,0))
section
variable {w w':World} {g:Nat} {t:TypeId} {cs:Array Value}
theorem Blk.lt (h:Blk w g t cs):g<w.heap.size:=by
 rcases Nat.lt_or_ge g w.heap.size with hlt|H
 ·exact hlt
 ·unfold Blk at h;rw[Array.getElem?_eq_none H]at h;cases h
theorem Blk.cell_ (h:Blk w g t cs) (i:Nat):w.cell? ⟨g,i,none⟩=cs[i]?:=cell_of_row w g i cs t (0,0) h
theorem Blk.at_ (h:Blk w g t cs) (i:Nat) {v:Value} (H:cs[i]?=some v):w.cell? ⟨g,i,none⟩=some v:=(h.cell_ i).trans H
theorem Blk.free_ (h:Blk w g t cs) (i:Nat):w.frozen? ⟨g,i,none⟩=false:=by
 unfold Blk at h;simp[World.frozen?,h]
theorem Blk.new (w:World) (t:TypeId) (cs:Array Value):Blk (w.alloc (.cells cs t)) w.heap.size t cs:=heap_alloc_new w _
theorem Blk.drew_ (h:Blk w g t cs):Blk w.drew g t cs:=h
theorem Blk.alloc_ (h:Blk w g t cs) (o:Obj):Blk (w.alloc o) g t cs:=(Below.heap_alloc w o g h.lt).trans h
theorem Blk.set_ (h:Blk w g t cs) (i:Nat) (u:Value):Blk (w.setCell ⟨g,i,none⟩ u) g t (cs.setIfInBounds i u):=by
 unfold Blk at h ⊢;simp[World.setCell,Array.getElem?_modify,h]
theorem Blk.far_ (h:Blk w g t cs) {p:Addr} (H:g≠p.block) (u:Value):Blk (w.setCell p u) g t cs:=(Below.heap_setCell w p u g H).trans h
theorem Blk.below_ {B:Nat} (h:Blk w g t cs) (H:Below B w w') (hg:g<B):Blk w' g t cs:=(H.block g hg).trans h
theorem Blk.grown_ {row:Option Nat} (h:Blk w g t cs) (H:w.grownBy w' row) (hg:some g≠row):Blk w' g t cs:=(H.block g h.lt hg).trans h
end
/-! Rows of the call's own -/
theorem Dn {W w':World} {o:Obj} {row:Option Nat} (h:(W.alloc o).grownBy w' row):W.grownBy w' row:=
 ⟨h.os,h.tape,h.output,Nat.le_trans (by simp) h.size,λi I H=>(h.block i (by simp;omega) H).trans (Below.heap_alloc W o i I)⟩
theorem Py {P:Program} {W:World} {aD:Array Oper} {rest:List Oper} {o:Oper} {a:Act} {Q:Exit->Act->World->Prop} (aJ:o.guard=none) (s x:Operand) (t E:TypeId)
  (ho:o.op=.call { callee:=.builtin .append,args:=#[s,x],argTypes:=#[t,t] }) {z:Value} {U I:Nat} (hU:P.underlying t=some (.slice E))
  (O:(P.info? E).map (λi=>(i.zero,i.size,i.bytes))=some (some z,U,I)) (aU:z.cells.size=U) (aK:0<U) (B n:Nat) (v:Value) (xs H:List Value)
  (hs:a.eval s=v) (Z:W.ownsRow B E U v n xs) (hx:a.eval x=.slice (some ⟨W.heap.size,0,none⟩) 1 1) (hn:H.length=U) (h1:∀u∈H,u.oneCell'=true)
  (hb:(n+1)*I<=140737488355328) (hm:n+1<=9223372036854775807) (hB:B<=W.heap.size)
  (h:∀V w',w'.ownsRow B E U V (n+1) (xs++H)->W.grownBy w' v.ownBlock->(V.ownBlock=v.ownBlock∨V.ownBlock=some (W.heap.size+1))->wpList P aD Q rest (a.put o.dst V) w'):
  wpList P aD Q (o :: rest) a (W.alloc (.cells H.toArray E)):=by
 obtain⟨i0,hi,aL,aN,aT⟩:=info_parts O
 have J:∀(j:Nat) (u:Value),H[j]?=some u->(W.alloc (.cells H.toArray E)).cell? ((⟨W.heap.size,0,none⟩:Addr).add j)=some u:=by
  intro j u hu;have hc:=(Blk.new W E H.toArray).cell_ j
  have e:(⟨W.heap.size,0,none⟩:Addr).add j=⟨W.heap.size,j,none⟩:=by
   unfold Addr.add;split
   ·rename_i h0;rw[h0]
   ·simp
  rw[e,hc]
  simpa using hu
 refine wpList_append_own_at _ aJ s x t ho B E i0 z U I hU hi aL aN aT aU aK v n xs hs (Z.alloc _) ⟨W.heap.size,0,none⟩ 1 1 H hx (by omega) J h1 hm hb (by simp;omega) ?_;intro V w' g1 g2 _ Y;refine h V w' g1 (Dn g2) ?_;rcases Y with Y|Y
 ·exact .inl Y
 ·exact .inr (by rw[Y];simp)
theorem Mc {w:World} {B E J n:Nat} {v:Value} {O:List Value} (h:w.ownsRow B E J v n O):v.ownBlock=none∨∃g cs,v.ownBlock=some g/\B<=g/\Blk w g E cs:=by
 rcases h.2 with⟨rfl,_⟩ |⟨g,cap,H,rfl,hB,I,_⟩
 ·exact .inl rfl
 ·exact .inr ⟨g,H,rfl,hB,I⟩
theorem Aw {w W w':World} {B B' E U n:Nat} {v:Value} {V:List Value} (J:Below B w W) (h:W.ownsRow B' E U v n V) (hg:W.grownBy w' v.ownBlock) (H:B<=B') (I:B<=W.heap.size):Below B w w':=
 J.grown hg I (λk O=>Nat.le_trans H (h.lt k O).1)
theorem Kk {W w':World} {B E I n:Nat} {v:Value} {J:List Value} (h:W.ownsRow B E I v n J) (H:Below W.heap.size W w'):w'.ownsRow B E I v n J:=
 h.kept (row:=none) ⟨H.os,H.tape,H.output,H.size,λk O _=>H.block k O⟩ (by
  cases hv:v.ownBlock with
  | none=>exact .inl rfl
  | some g=>exact .inr (by simp))
theorem Aq {w:World} {B E O g n cap:Nat} {H:List Value} (h:w.ownsRow B E O (.slice (some ⟨g,0,none⟩) n cap) n H) {j:Nat} {u:Value} (J:H[j]?=some u):w.cell? ⟨g,j,none⟩=some u:=by
 have U:H.length=n*O:=h.1
 have hlt:j<n*O:=by
  rw[<-U];rcases Nat.lt_or_ge j H.length with hlt|I
  ·exact hlt
  ·rw[List.getElem?_eq_none I]at J;cases J
 rw[h.cellAt j hlt];exact J
theorem Dk {w:World} {B E U n:Nat} {v:Value} {H:List Value} (h:w.ownsRow B E U v n H):(v=.slice none 0 0/\n=0/\H=[])∨∃g cap,v=.slice (some ⟨g,0,none⟩) n cap/\B<=g/\g<w.heap.size/\n<=cap:=by
 rcases h.2 with⟨rfl,rfl⟩ |⟨g,cap,I,rfl,hB,J,O,_⟩
 ·exact .inl ⟨rfl,rfl,List.eq_nil_of_length_eq_zero (by simpa using h.1)⟩
 ·exact .inr ⟨g,cap,rfl,hB,Blk.lt (t:=E) J,O⟩
theorem bt {w H I:World} (h:Hd (Below w.heap.size w H)) (J:Below H.heap.size H I):Hd (Below w.heap.size w I):=Hd.mk (h.1.trans (J.mono h.1.size))
theorem bk {w w':World} {g:Nat} {t:TypeId} {c:Array Value} (h:Hd (Blk w g t c)) (H:Below w.heap.size w w'):Blk w' g t c:=h.1.below_ H h.1.lt
theorem Kh {p:Prop} (h:p):Hd p:=Hd.mk h
end Go.Proofs.YtenlbhlllgppmaaGreatDoor
