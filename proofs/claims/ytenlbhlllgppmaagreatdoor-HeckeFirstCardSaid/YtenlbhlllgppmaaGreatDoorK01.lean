/- Small lemmas on numbers, endings and worlds that all walks of this seat share. -/
import Derived.Test.YtenlbhlllgppmaaGreatDoorChecked
import Derived.WalkKit
import Derived.WalkLawsBesides
import Derived.WalkSpells
import Derived.WalkSmall
import Derived.Handy
import Derived.Deep.QuietTactic
import Derived.BigQuiet
import Derived.BigGuardPart
import Derived.Deep.RegionWith
import Derived.Deep.RegionHeld3
import Derived.Deep.RegionLaw
import Derived.Deep.LoopGhost
import Derived.Deep.DeepCutAuto
import Derived.Deep.DeepMust
import Derived.StillTailTactics
import Derived.RegionTactic
import Derived.ChangeAlike
import Derived.Laws.CopyOwn
import Derived.Lib.Hide
import Derived.Maps.AppendAt
namespace Go.Proofs.YtenlbhlllgppmaaGreatDoor
open Go.RowKit
theorem ret_i {k:IntKind} {a b:Int} (h:a=b):Ending.returned (.int k a)=.returned (.int k b):=by rw[h]
theorem ret_b {a b:Bool} (h:a=b):Ending.returned (.bool a)=.returned (.bool b):=by rw[h]
theorem val_i {k:IntKind} {a b:Int} (h:a=b):Value.int k a=.int k b:=by rw[h]
theorem val_b {a b:Bool} (h:a=b):Value.bool a=.bool b:=by rw[h]
theorem dr2 (w:World) (a b:Nat):(w.drewN a).drewN b=w.drewN (a+b):=World.drewN_drewN _ _ _
theorem gcd_step (x y:Int) (h:y≠0):Int.gcd y (x.tmod y)=Int.gcd x y∧(x.tmod y).natAbs<y.natAbs:=by
 constructor
 ·rw[Int.gcd_comm x y]
  simp only[Int.gcd,Int.natAbs_tmod]
  rw[Nat.gcd_comm,← Nat.gcd_rec]
 ·rw[Int.natAbs_tmod];exact Nat.mod_lt _ (by omega)
theorem gcd_zero (x:Int):((Int.gcd x 0:Nat):Int)=if x<0 then -x else x:=by
 rw[Int.gcd_zero_right];split <;> omega
theorem quiet_below {w w':World} (h:∃ n,w'=w.drewN n):Below w.heap.size w w':=by
 obtain⟨n,rfl⟩:=h
 exact⟨rfl,rfl,rfl,Nat.le_refl _,fun _ _=>rfl⟩
theorem below_drewN' {B:Nat} {a w:World} (h:Below B a w) (n:Nat):Below B a (w.drewN n):=⟨h.os,h.tape,h.output,h.size,h.block⟩
def Blk (w:World) (g:Nat) (t:TypeId) (cs:Array Value):Prop:=w.heap[g]?=some (.cells cs t (0,0))
section
variable {w w':World} {g:Nat} {t:TypeId} {cs:Array Value}
theorem Blk.lt (h:Blk w g t cs):g<w.heap.size:=by
 rcases Nat.lt_or_ge g w.heap.size with hlt|hge
 ·exact hlt
 ·unfold Blk at h;rw[Array.getElem?_eq_none hge]at h;cases h
theorem Blk.cell_ (h:Blk w g t cs) (i:Nat):w.cell? ⟨g,i,none⟩=cs[i]?:=cell_of_row w g i cs t (0,0) h
theorem Blk.at_ (h:Blk w g t cs) (i:Nat) {v:Value} (hv:cs[i]?=some v):w.cell? ⟨g,i,none⟩=some v:=(h.cell_ i).trans hv
theorem Blk.free_ (h:Blk w g t cs) (i:Nat):w.frozen? ⟨g,i,none⟩=false:=by
 unfold Blk at h
 simp[World.frozen?,h]
theorem Blk.new (w:World) (t:TypeId) (cs:Array Value):Blk (w.alloc (.cells cs t)) w.heap.size t cs:=heap_alloc_new w _
theorem Blk.drew_ (h:Blk w g t cs):Blk w.drew g t cs:=h
theorem Blk.alloc_ (h:Blk w g t cs) (o:Obj):Blk (w.alloc o) g t cs:=(Below.heap_alloc w o g h.lt).trans h
theorem Blk.set_ (h:Blk w g t cs) (i:Nat) (u:Value):Blk (w.setCell ⟨g,i,none⟩ u) g t (cs.setIfInBounds i u):=by
 unfold Blk at h ⊢
 simp[World.setCell,Array.getElem?_modify,h]
theorem Blk.far_ (h:Blk w g t cs) {p:Addr} (hp:g≠p.block) (u:Value):Blk (w.setCell p u) g t cs:=(Below.heap_setCell w p u g hp).trans h
theorem Blk.below_ {B:Nat} (h:Blk w g t cs) (hb:Below B w w') (hg:g<B):Blk w' g t cs:=(hb.block g hg).trans h
theorem Blk.grown_ {row:Option Nat} (h:Blk w g t cs) (hb:w.grownBy w' row) (hg:some g≠row):Blk w' g t cs:=(hb.block g h.lt hg).trans h
end
/-! Rows of the call's own -/
theorem grown_of_alloc {W w':World} {o:Obj} {row:Option Nat} (h:(W.alloc o).grownBy w' row):W.grownBy w' row:=
 ⟨h.os,h.tape,h.output,Nat.le_trans (by simp) h.size,fun i hi hne=>(h.block i (by simp;omega) hne).trans (Below.heap_alloc W o i hi)⟩
theorem wpl_app1 {P:Program} {W:World} {ops:Array Oper} {rest:List Oper} {o:Oper} {a:Act} {Q:Exit→Act→World→Prop} (hgd:o.guard=none) (s x:Operand) (t E:TypeId)
  (ho:o.op=.call { callee:=.builtin .append,args:=#[s,x],argTypes:=#[t,t] }) {z:Value} {sz bytes:Nat} (hU:P.underlying t=some (.slice E))
  (hinfo:(P.info? E).map (fun i=>(i.zero,i.size,i.bytes))=some (some z,sz,bytes)) (hzs:z.cells.size=sz) (hsz:0<sz) (B n:Nat) (v:Value) (xs news:List Value)
  (hs:a.eval s=v) (hown:W.ownsRow B E sz v n xs) (hx:a.eval x=.slice (some ⟨W.heap.size,0,none⟩) 1 1) (hn:news.length=sz) (h1:∀ u∈news,u.oneCell'=true)
  (hb:(n+1)*bytes≤140737488355328) (hm:n+1≤9223372036854775807) (hB:B≤W.heap.size)
  (h:∀ v' w',w'.ownsRow B E sz v' (n+1) (xs++news)→W.grownBy w' v.ownBlock→(v'.ownBlock=v.ownBlock∨v'.ownBlock=some (W.heap.size+1))→wpList P ops Q rest (a.put o.dst v') w'):
  wpList P ops Q (o :: rest) a (W.alloc (.cells news.toArray E)):=by
 obtain⟨i0,hi,hz0,hz1,hz2⟩:=info_parts hinfo
 have hcell:∀ (j:Nat) (u:Value),news[j]?=some u→(W.alloc (.cells news.toArray E)).cell? ((⟨W.heap.size,0,none⟩:Addr).add j)=some u:=by
  intro j u hu
  have hc:=(Blk.new W E news.toArray).cell_ j
  have e:(⟨W.heap.size,0,none⟩:Addr).add j=⟨W.heap.size,j,none⟩:=by
   unfold Addr.add;split
   ·rename_i h0;rw[h0]
   ·simp
  rw[e,hc]
  simpa using hu
 refine wpList_append_own_at _ hgd s x t ho B E i0 z sz bytes hU hi hz0 hz1 hz2 hzs hsz v n xs hs (hown.alloc _) ⟨W.heap.size,0,none⟩ 1 1 news hx (by omega) hcell h1 hm hb (by simp;omega) ?_
 intro v' w' g1 g2 _ g3
 refine h v' w' g1 (grown_of_alloc g2) ?_
 rcases g3 with g3|g3
 ·exact .inl g3
 ·exact .inr (by rw[g3];simp)
theorem own_block {w:World} {B E sz n:Nat} {v:Value} {xs:List Value} (h:w.ownsRow B E sz v n xs):v.ownBlock=none∨∃ g cs,v.ownBlock=some g∧B≤g∧Blk w g E cs:=by
 rcases h.2 with⟨rfl,_⟩ |⟨g,cap,cur,rfl,hB,hh,_⟩
 ·exact .inl rfl
 ·exact .inr ⟨g,cur,rfl,hB,hh⟩
theorem own_below {w W w':World} {B B' E sz n:Nat} {v:Value} {xs:List Value} (hb:Below B w W) (h:W.ownsRow B' E sz v n xs) (hg:W.grownBy w' v.ownBlock) (h1:B≤B') (h2:B≤W.heap.size):Below B w w':=
 hb.grown hg h2 (fun k hk=>Nat.le_trans h1 (h.lt k hk).1)
theorem own_keep {W w':World} {B E sz n:Nat} {v:Value} {xs:List Value} (h:W.ownsRow B E sz v n xs) (hb:Below W.heap.size W w'):w'.ownsRow B E sz v n xs:=
 h.kept (row:=none) ⟨hb.os,hb.tape,hb.output,hb.size,fun k hk _=>hb.block k hk⟩ (by
  cases hv:v.ownBlock with
  | none=>exact .inl rfl
  | some g=>exact .inr (by simp))
theorem own_read {w:World} {B E sz g n cap:Nat} {xs:List Value} (h:w.ownsRow B E sz (.slice (some ⟨g,0,none⟩) n cap) n xs) {j:Nat} {u:Value} (hj:xs[j]?=some u):w.cell? ⟨g,j,none⟩=some u:=by
 have hl:xs.length=n*sz:=h.1
 have hlt:j<n*sz:=by
  rw[← hl]
  rcases Nat.lt_or_ge j xs.length with hlt|hge
  ·exact hlt
  ·rw[List.getElem?_eq_none hge]at hj;cases hj
 rw[h.cellAt j hlt];exact hj
theorem own_shape {w:World} {B E sz n:Nat} {v:Value} {xs:List Value} (h:w.ownsRow B E sz v n xs):(v=.slice none 0 0∧n=0∧xs=[])∨∃ g cap,v=.slice (some ⟨g,0,none⟩) n cap∧B≤g∧g<w.heap.size∧n≤cap:=by
 rcases h.2 with⟨rfl,rfl⟩ |⟨g,cap,cur,rfl,hB,hh,hn,_⟩
 ·exact .inl ⟨rfl,rfl,List.eq_nil_of_length_eq_zero (by simpa using h.1)⟩
 ·exact .inr ⟨g,cap,rfl,hB,Blk.lt (t:=E) hh,hn⟩
theorem bt {w w1 w2:World} (h:Hid (Below w.heap.size w w1)) (h2:Below w1.heap.size w1 w2):Hid (Below w.heap.size w w2):=Lib.hid (h.out.trans (h2.mono h.out.size))
theorem bk {w w':World} {g:Nat} {t:TypeId} {c:Array Value} (h:Hid (Blk w g t c)) (hb:Below w.heap.size w w'):Blk w' g t c:=h.out.below_ hb h.out.lt
theorem Kh {p:Prop} (h:p):Hid p:=Lib.hid h
end Go.Proofs.YtenlbhlllgppmaaGreatDoor
