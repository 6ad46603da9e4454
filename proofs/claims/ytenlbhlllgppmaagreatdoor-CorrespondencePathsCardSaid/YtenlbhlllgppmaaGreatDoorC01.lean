/- Small lemmas on numbers, endings and worlds that all walks of this seat share. -/
import Derived.Test.YtenlbhlllgppmaaGreatDoorChecked
import Derived.WalkLawsBesides
import Derived.WalkSpells
import Derived.Handy
import Derived.BigQuiet
import Derived.BigGuardPart
import Derived.Deep.RegionHeld3
import Derived.Deep.DeepCutAuto
import Derived.StillTailTactics
import Derived.Laws.CopyOwn
import Derived.Lib.Hide
namespace Go.Proofs.YtenlbhlllgppmaaGreatDoor
open Go.RowKit
structure Hd (p:Prop):Prop where
 o:p
theorem nL (n:Nat):n≤n:=Nat.le_refl n
theorem nM {n m k:Nat} (a:n≤m) (b:m≤k):n≤k:=Nat.le_trans a b
theorem nN {n m k:Nat} (a:n<m) (b:m≤k):n<k:=Nat.lt_of_lt_of_le a b
theorem nO (n:Nat):n<n.succ:=Nat.lt_succ_self n
theorem nP {α:Type _} {x:Option α} (h:x.isSome=true):∃ a,x=some a:=Option.isSome_iff_exists.1 h
theorem A5 {k:IntKind} {a b:Int} (h:a=b):Ending.returned (.int k a)=.returned (.int k b):=by rw[h]
theorem Cx {a b:Bool} (h:a=b):Ending.returned (.bool a)=.returned (.bool b):=by rw[h]
theorem Iw {k:IntKind} {a b:Int} (h:a=b):Value.int k a=.int k b:=by rw[h]
theorem Z5 {a b:Bool} (h:a=b):Value.bool a=.bool b:=by rw[h]
theorem Lx (w:World) (a b:Nat):(w.drewN a).drewN b=w.drewN (a+b):=World.drewN_drewN _ _ _
theorem O7 (x y:Int) (h:y≠0):Int.gcd y (x.tmod y)=Int.gcd x y/\(x.tmod y).natAbs<y.natAbs:=by
 constructor
 ·rw[Int.gcd_comm x y]
  simp only[Int.gcd,Int.natAbs_tmod];rw[Nat.gcd_comm,<-Nat.gcd_rec]
 ·rw[Int.natAbs_tmod];exact Nat.mod_lt _ (by omega)
theorem O8 (x:Int):((Int.gcd x 0:Nat):Int)=if x<0 then -x else x:=by
 rw[Int.gcd_zero_right];split <;> omega
theorem A4 {w w':World} (h:∃n,w'=w.drewN n):Below w.heap.size w w':=by
 obtain⟨n,rfl⟩:=h;exact⟨rfl,rfl,rfl,Nat.le_refl _,λ_ _=>rfl⟩
theorem Aa {B:Nat} {a w:World} (h:Below B a w) (n:Nat):Below B a (w.drewN n):=⟨h.os,h.tape,h.output,h.size,h.block⟩
def Blk (w:World) (g:Nat) (t:TypeId) (cs:Array Value):Prop:=w.heap[g]?=some (.cells cs t (0,0))
section
variable {w w':World} {g:Nat} {t:TypeId} {cs:Array Value}
theorem Blk.lt (h:Blk w g t cs):g<w.heap.size:=by
 rcases Nat.lt_or_ge g w.heap.size with hlt|E
 ·exact hlt
 ·unfold Blk at h;rw[Array.getElem?_eq_none E]at h;cases h
theorem Blk.cell_ (h:Blk w g t cs) (i:Nat):w.cell? ⟨g,i,none⟩=cs[i]?:=cell_of_row w g i cs t (0,0) h
theorem Blk.at_ (h:Blk w g t cs) (i:Nat) {v:Value} (E:cs[i]?=some v):w.cell? ⟨g,i,none⟩=some v:=(h.cell_ i).trans E
theorem Blk.free_ (h:Blk w g t cs) (i:Nat):w.frozen? ⟨g,i,none⟩=false:=by
 unfold Blk at h;simp[World.frozen?,h]
theorem Blk.new (w:World) (t:TypeId) (cs:Array Value):Blk (w.alloc (.cells cs t)) w.heap.size t cs:=heap_alloc_new w _
theorem Blk.drew_ (h:Blk w g t cs):Blk w.drew g t cs:=h
theorem Blk.alloc_ (h:Blk w g t cs) (o:Obj):Blk (w.alloc o) g t cs:=(Below.heap_alloc w o g h.lt).trans h
theorem Blk.set_ (h:Blk w g t cs) (i:Nat) (u:Value):Blk (w.setCell ⟨g,i,none⟩ u) g t (cs.setIfInBounds i u):=by
 unfold Blk at h ⊢;simp[World.setCell,Array.getElem?_modify,h]
theorem Blk.far_ (h:Blk w g t cs) {p:Addr} (E:g≠p.block) (u:Value):Blk (w.setCell p u) g t cs:=(Below.heap_setCell w p u g E).trans h
theorem Blk.below_ {B:Nat} (h:Blk w g t cs) (E:Below B w w') (hg:g<B):Blk w' g t cs:=(E.block g hg).trans h
theorem Blk.grown_ {row:Option Nat} (h:Blk w g t cs) (E:w.grownBy w' row) (hg:some g≠row):Blk w' g t cs:=(E.block g h.lt hg).trans h
end
/-! Rows of the call's own -/
theorem Dv {W w':World} {o:Obj} {row:Option Nat} (h:(W.alloc o).grownBy w' row):W.grownBy w' row:=
 ⟨h.os,h.tape,h.output,Nat.le_trans (by simp) h.size,λi I E=>(h.block i (by simp;omega) E).trans (Below.heap_alloc W o i I)⟩
theorem Ho {P:Program} {W:World} {aD:Array Oper} {rest:List Oper} {o:Oper} {a:Act} {Q:Exit->Act->World->Prop} (aK:o.guard=none) (s x:Operand) (t E:TypeId)
  (ho:o.op=.call { callee:=.builtin .append,args:=#[s,x],argTypes:=#[t,t] }) {z:Value} {sz J:Nat} (hU:P.underlying t=some (.slice E))
  (O:(P.info? E).map (λi=>(i.zero,i.size,i.bytes))=some (some z,sz,J)) (bC:z.cells.size=sz) (aN:0<sz) (B n:Nat) (v:Value) (xs I:List Value)
  (hs:a.eval s=v) (Z:W.ownsRow B E sz v n xs) (hx:a.eval x=.slice (some ⟨W.heap.size,0,none⟩) 1 1) (hn:I.length=sz) (h1:∀u∈I,u.oneCell'=true)
  (hb:(n+1)*J<=140737488355328) (hm:n+1<=9223372036854775807) (hB:B<=W.heap.size)
  (h:∀U w',w'.ownsRow B E sz U (n+1) (xs++I)->W.grownBy w' v.ownBlock->(U.ownBlock=v.ownBlock∨U.ownBlock=some (W.heap.size+1))->wpList P aD Q rest (a.put o.dst U) w'):
  wpList P aD Q (o :: rest) a (W.alloc (.cells I.toArray E)):=by
 obtain⟨i0,hi,aX,bA,bB⟩:=info_parts O
 have M:∀(j:Nat) (u:Value),I[j]?=some u->(W.alloc (.cells I.toArray E)).cell? ((⟨W.heap.size,0,none⟩:Addr).add j)=some u:=by
  intro j u hu;have hc:=(Blk.new W E I.toArray).cell_ j
  have e:(⟨W.heap.size,0,none⟩:Addr).add j=⟨W.heap.size,j,none⟩:=by
   unfold Addr.add;split
   ·rename_i h0;rw[h0]
   ·simp
  rw[e,hc]
  simpa using hu
 refine wpList_append_own_at _ aK s x t ho B E i0 z sz J hU hi aX bA bB bC aN v n xs hs (Z.alloc _) ⟨W.heap.size,0,none⟩ 1 1 I hx (by omega) M h1 hm hb (by simp;omega) ?_;intro U w' g1 g2 _ V;refine h U w' g1 (Dv g2) ?_;rcases V with V|V
 ·exact .inl V
 ·exact .inr (by rw[V];simp)
theorem Eh {w:World} {B E sz n:Nat} {v:Value} {M:List Value} (h:w.ownsRow B E sz v n M):v.ownBlock=none∨∃g cs,v.ownBlock=some g/\B<=g/\Blk w g E cs:=by
 rcases h.2 with⟨rfl,_⟩ |⟨g,cap,I,rfl,hB,J,_⟩
 ·exact .inl rfl
 ·exact .inr ⟨g,I,rfl,hB,J⟩
theorem Mb {W w':World} {B E sz n:Nat} {v:Value} {xs:List Value} {B' V O n':Nat} {v':Value} {U:List Value} (h:W.ownsRow B E sz v n xs) (h':W.ownsRow B' V O v' n' U) (hE:E≠V)
  (hg:W.grownBy w' v'.ownBlock):w'.ownsRow B E sz v n xs:=by
 refine h.kept hg ?_;rcases Eh h with J |⟨g,cs,J,_,Z⟩
 ·exact .inl J
 ·right
  rcases Eh h' with M |⟨g',aN,M,_,I⟩
  ·rw[J,M];simp
  ·rw[J,M]
   intro e;injection e with e
   subst e;unfold Blk at Z I;rw[Z]at I;injection I with I
   injection I with _ e2
   exact hE e2
theorem Sy {W w':World} {g t:Nat} {cs:Array Value} {B' O J n':Nat} {U:Value} {M:List Value} (h:Blk W g t cs) (Z:W.ownsRow B' O J U n' M) (hE:t≠O)
  (hg:W.grownBy w' U.ownBlock):Blk w' g t cs:=by
 refine h.grown_ hg ?_;rcases Eh Z with I |⟨g',V,I,_,E⟩
 ·rw[I];simp
 ·rw[I]
  intro e;injection e with e
  subst e;unfold Blk at h E;rw[h]at E;injection E with E
  injection E with _ e2
  exact hE e2
theorem At {w W w':World} {B B' E sz n:Nat} {v:Value} {U:List Value} (M:Below B w W) (h:W.ownsRow B' E sz v n U) (hg:W.grownBy w' v.ownBlock) (I:B<=B') (J:B<=W.heap.size):Below B w w':=
 M.grown hg J (λk O=>Nat.le_trans I (h.lt k O).1)
theorem Kl {W w':World} {B E sz n:Nat} {v:Value} {J:List Value} (h:W.ownsRow B E sz v n J) (I:Below W.heap.size W w'):w'.ownsRow B E sz v n J:=
 h.kept (row:=none) ⟨I.os,I.tape,I.output,I.size,λk M _=>I.block k M⟩ (by
  cases hv:v.ownBlock with
  | none=>exact .inl rfl
  | some g=>exact .inr (by simp))
theorem Ai {w:World} {B E sz g n cap:Nat} {I:List Value} (h:w.ownsRow B E sz (.slice (some ⟨g,0,none⟩) n cap) n I) {j:Nat} {u:Value} (M:I[j]?=some u):w.cell? ⟨g,j,none⟩=some u:=by
 have O:I.length=n*sz:=h.1
 have hlt:j<n*sz:=by
  rw[<-O];rcases Nat.lt_or_ge j I.length with hlt|J
  ·exact hlt
  ·rw[List.getElem?_eq_none J]at M;cases M
 rw[h.cellAt j hlt];exact M
theorem Cb {w:World} {B E sz n:Nat} {v:Value} {I:List Value} (h:w.ownsRow B E sz v n I):(v=.slice none 0 0/\n=0/\I=[])∨∃g cap,v=.slice (some ⟨g,0,none⟩) n cap/\B<=g/\g<w.heap.size/\n<=cap:=by
 rcases h.2 with⟨rfl,rfl⟩ |⟨g,cap,J,rfl,hB,M,hn,_⟩
 ·exact .inl ⟨rfl,rfl,List.eq_nil_of_length_eq_zero (by simpa using h.1)⟩
 ·exact .inr ⟨g,cap,rfl,hB,Blk.lt (t:=E) M,hn⟩
theorem bt {w E I:World} (h:Hd (Below w.heap.size w E)) (J:Below E.heap.size E I):Hd (Below w.heap.size w I):=Hd.mk (h.1.trans (J.mono h.1.size))
theorem bk {w w':World} {g:Nat} {t:TypeId} {c:Array Value} (h:Hd (Blk w g t c)) (E:Below w.heap.size w w'):Blk w' g t c:=h.1.below_ E h.1.lt
theorem Kh {p:Prop} (h:p):Hd p:=Hd.mk h
end Go.Proofs.YtenlbhlllgppmaaGreatDoor
