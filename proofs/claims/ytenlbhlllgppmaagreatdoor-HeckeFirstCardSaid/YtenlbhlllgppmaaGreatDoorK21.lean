/- Contracts of sl2 and halfplaneref18: Lowest. -/
import Derived.Test.YtenlbhlllgppmaaGreatDoorK20
import Derived.Test.YtenlbhlllgppmaaGreatDoorK19
import Derived.Test.YtenlbhlllgppmaaGreatDoorK13
import Derived.Test.YtenlbhlllgppmaaGreatDoorK08
import Derived.Test.YtenlbhlllgppmaaGreatDoorK06
import Derived.Test.YtenlbhlllgppmaaGreatDoorK07
set_option maxRecDepth 100000
set_option maxHeartbeats 8000000
namespace Go.Proofs.YtenlbhlllgppmaaGreatDoor
open Go.RowKit
def low (p q:Int):Int×Int:=if q<0∨(q=0∧p<0)then(-(p.tdiv ((Int.gcd p q:Nat):Int)),-(q.tdiv ((Int.gcd p q:Nat):Int)))else(p.tdiv ((Int.gcd p q:Nat):Int),q.tdiv ((Int.gcd p q:Nat):Int))
def TV (B:Nat) (w0 w:World):List Addr→Prop
 | []=>Below B w0 w∧B≤w.heap.size
 | a :: m=>w.cell? a=some (cellOf w a)∧w.frozen? a=false∧TV B w0 w m
def TT (B:Nat) (w0 w:World) (l:List (Addr×Value)) (m:List Addr):Prop:=
 match l with
 | []=>TV B w0 w m
 |(a,v) :: l=>w.cell? a=some v∧TT B w0 w l m
theorem TV.next {B:Nat} {w0 w w':World} {m:List Addr} (hb:Below w.heap.size w w') (h:TV B w0 w m):TV B w0 w' m:=by
 induction m with
 | nil=>exact⟨h.1.trans (hb.mono h.2),Nat.le_trans h.2 hb.size⟩
 | cons a m ih=>
  obtain⟨h1,h2,h3⟩:=h
  have hl:=World.block_lt_of_cell? w a h1
  refine⟨cellOf_some (by rw[hb.cell hl];exact some_cellOf h1),frozen_keep hb (some_cellOf h1) h2,ih h3⟩
theorem TT.next {B:Nat} {w0 w w':World} {l:List (Addr×Value)} {m:List Addr} (hb:Below w.heap.size w w') (h:TT B w0 w l m):TT B w0 w' l m:=by
 induction l with
 | nil=>exact TV.next hb h
 | cons x l ih=>exact⟨(hb.cell (World.block_lt_of_cell? w x.1 h.1)).trans h.1,ih h.2⟩
theorem TV.below {B:Nat} {w0 w:World} {m:List Addr} (h:TV B w0 w m):Below B w0 w:=by
 induction m with
 | nil=>exact h.1
 | cons a m ih=>exact ih h.2.2
theorem TT.below {B:Nat} {w0 w:World} {l:List (Addr×Value)} {m:List Addr} (h:TT B w0 w l m):Below B w0 w:=by
 induction l with
 | nil=>exact TV.below h
 | cons x l ih=>exact ih h.2
theorem TV.put {B:Nat} {w0 w:World} {m:List Addr} (h:TV B w0 w m) (p:Addr) (v:Value) (hp:B≤p.block):TV B w0 (w.setCell p v) m:=by
 induction m with
 | nil=>exact⟨h.1.setCell hp v,by simpa using h.2⟩
 | cons a m ih=>exact⟨cellOf_some (cell_some_set (some_cellOf h.1)),frozen_set h.2.1,ih h.2.2⟩
theorem TT.put {B:Nat} {w0 w:World} {l:List (Addr×Value)} {m:List Addr} (h:TT B w0 w l m) (p:Addr) (v:Value) (hp:B≤p.block) (hl:∀ x∈l,p.block≠x.1.block):TT B w0 (w.setCell p v) l m:=by
 induction l with
 | nil=>exact TV.put h p v hp
 | cons x l ih=>
  refine⟨?_,ih h.2 (fun y hy=>hl y (List.mem_cons_of_mem _ hy))⟩
  rw[World.cell?_setCell_far w p x.1 v (hl x (List.mem_cons_self ..))]
  exact h.1
def NotU32 (v:Value):Prop:=∀ n,v≠.int .u32 n
theorem not_u32 (n:Int):¬ NotU32 (.int .u32 n):=fun h=>h _ rfl
theorem stk_put {K:Value→Prop} {w:World} {R:Nat} (h:Stk K w R) (p:Addr) (u:Value) (hu:K u):Stk K (w.setCell p u) R:=by
 refine⟨by simpa using h.1,fun i v hv=>?_⟩
 by_cases hp:p=⟨R,i,none⟩
 ·cases hc:w.cell? p with
  | none=>
   have:(w.setCell p u).cell? p=none:=setCell_none u hc
   rw[← hp,this]at hv;cases hv
  | some y=>
   rw[← hp,World.cell?_setCell_same' _ _ _ (by rw[hc];rfl)]at hv
   injection hv with hv
   rw[← hv];exact hu
 ·rw[World.cell?_setCell_other _ _ _ _ hp]at hv
  exact h.2 i v hv
theorem I32.putK {w:World} {R:Nat} (hs:Stk NotU32 w R) (i:Nat) (u:Value):I32 w (w.setCell ⟨R,i,none⟩ u):=
 ⟨by simp,fun g j n e=>by
  have hne:R≠g:=fun e2=>hs.2 j _ (by rw[e2];exact e) _ rfl
  rw[World.cell?_setCell_far w ⟨R,i,none⟩ ⟨g,j,none⟩ u hne]
  exact e⟩
theorem I32.path {w:World} {R:Nat} (hs:Stk NotU32 w R) (p:Option Addr) (n c:Nat) (i j k l:Int):
  I32 w (((((w.setCell ⟨R,0,none⟩ (.slice p n c)).setCell ⟨R,1,none⟩ (.int .i64 i)).setCell ⟨R,2,none⟩ (.int .i64 j)).setCell ⟨R,3,none⟩ (.int .i64 k)).setCell ⟨R,4,none⟩ (.int .i64 l)):=by
 have k0:NotU32 (.slice p n c):=fun _ h=>by cases h
 have k1:∀ x:Int,NotU32 (.int .i64 x):=fun x _ h=>by cases h
 have s1:=stk_put hs ⟨R,0,none⟩ (.slice p n c) k0
 have s2:=stk_put s1 ⟨R,1,none⟩ (.int .i64 i) (k1 i)
 have s3:=stk_put s2 ⟨R,2,none⟩ (.int .i64 j) (k1 j)
 have s4:=stk_put s3 ⟨R,3,none⟩ (.int .i64 k) (k1 k)
 exact((((I32.putK hs 0 _).trans (I32.putK s1 1 _)).trans (I32.putK s2 2 _)).trans (I32.putK s3 3 _)).trans (I32.putK s4 4 _)
theorem QRow.i32 {F:Nat→FP} (hF:∀ j,Solid (F j)) {w w':World} {g N k R:Nat} (h:QRow F w g N k) (h32:I32 w w') (hg:w.grownBy w' (some R)) (hne:g≠R):QRow F w' g N k:=by
 have hc:∀ j v,w.cell? ⟨g,j,none⟩=some v→w'.cell? ⟨g,j,none⟩=some v:=fun j v e=>hg.cell e (fun e2=>by injection e2 with e2;exact hne e2)
 have hbk:w'.heap[g]?=w.heap[g]?:=hg.block g h.sts.1 (fun e=>by injection e with e;exact hne e)
 refine⟨⟨Nat.lt_of_lt_of_le h.sts.1 hg.size,fun i v hv=>h.sts.2 i v ((World.cell?_of_block (a:=⟨g,i,none⟩) hbk).symm.trans hv)⟩,fun i hi=>(World.frozen?_of_block (a:=⟨g,i,none⟩) hbk).trans (h.free i hi),fun i hi=>?_,fun j hj=>?_⟩
 ·rw[World.cell?_of_block (a:=⟨g,i,none⟩) hbk];exact h.has i hi
 ·obtain⟨s,p,n,c,t,q,m,d,h0,h1,h2,h3,h4⟩:=h.val j hj
  exact⟨s,p,n,c,t,q,m,d,hc _ _ h0,hc _ _ h1,hc _ _ h2,hc _ _ h3,hF j _ _ _ _ _ _ _ _ _ _ h32 h4⟩
def RetP (w:World) (w':World) (e:Ending) (n:Nat) (f:Nat→Rat) (x y:Int×Int) (er:Int):Prop:=
 (er≠0∧e=.returned (.tuple #[.agg #[.slice none 0 0,.int .i64 0,.int .i64 0,.int .i64 0,.int .i64 0],.int .i64 er])) ∨
 (er=0∧∃ g cap,e=.returned (.tuple #[.agg #[.slice (some ⟨g,0,none⟩) n cap,.int .i64 x.1,.int .i64 x.2,.int .i64 y.1,.int .i64 y.2],.int .i64 0])∧w.heap.size≤g∧QRow (fun j=>IsQ (f j)) w' g n n)
theorem QRow.grown {F:Nat→FP} (hF:∀ j,Solid (F j)) {w w':World} {g N k:Nat} {row:Option Nat} (h:QRow F w g N k) (h32:I32 w w') (hg:w.grownBy w' row) (hne:some g≠row):QRow F w' g N k:=by
 have hc:∀ j v,w.cell? ⟨g,j,none⟩=some v→w'.cell? ⟨g,j,none⟩=some v:=fun j v e=>hg.cell e hne
 have hbk:w'.heap[g]?=w.heap[g]?:=hg.block g h.sts.1 hne
 refine⟨⟨Nat.lt_of_lt_of_le h.sts.1 hg.size,fun i v hv=>h.sts.2 i v ((World.cell?_of_block (a:=⟨g,i,none⟩) hbk).symm.trans hv)⟩,fun i hi=>(World.frozen?_of_block (a:=⟨g,i,none⟩) hbk).trans (h.free i hi),fun i hi=>?_,fun j hj=>?_⟩
 ·rw[World.cell?_of_block (a:=⟨g,i,none⟩) hbk];exact h.has i hi
 ·obtain⟨s,p,n,c,t,q,m,d,h0,h1,h2,h3,h4⟩:=h.val j hj
  exact⟨s,p,n,c,t,q,m,d,hc _ _ h0,hc _ _ h1,hc _ _ h2,hc _ _ h3,hF j _ _ _ _ _ _ _ _ _ _ h32 h4⟩
def PX (w:World) (xs:List Value) (i n:Nat) (f:Nat→Rat) (x y:Int×Int):Prop:=
 ∃ g cap,xs[i*5]?=some (.slice (some ⟨g,0,none⟩) n cap)∧xs[i*5+1]?=some (.int .i64 x.1)∧xs[i*5+2]?=some (.int .i64 x.2)∧xs[i*5+3]?=some (.int .i64 y.1)∧xs[i*5+4]?=some (.int .i64 y.2)∧QRow (fun j=>IsQ (f j)) w g n n
def OwnP (F:Nat→Nat→Rat) (X Y:Nat→Int×Int) (w:World) (B:Nat) (v:Value) (k n:Nat):Prop:=
 (v.ownBlock=none∨0<k)∧∃ xs,OwnK NotU32 w B 57 5 v k xs∧∀ i,i<k→PX w xs i n (F i) (X i) (Y i)
theorem OwnP.nil (F:Nat→Nat→Rat) (X Y:Nat→Int×Int) (w:World) (B n:Nat):OwnP F X Y w B (.slice none 0 0) 0 n:=⟨.inl rfl,[],OwnK.nil _ _ _ _ _,fun _ hi=>absurd hi (Nat.not_lt_zero _)⟩
theorem PX.keep {w w':World} {xs:List Value} {i n:Nat} {f:Nat→Rat} {x y:Int×Int} (h:PX w xs i n f x y) (hb:Below w.heap.size w w'):PX w' xs i n f x y:=by
 obtain⟨g,cap,h0,h1,h2,h3,h4,h5⟩:=h
 exact⟨g,cap,h0,h1,h2,h3,h4,h5.keep (fun _=>IsQ.solid _) hb⟩
theorem OwnP.keep {F:Nat→Nat→Rat} {X Y:Nat→Int×Int} {w w':World} {B k n:Nat} {v:Value} (h:OwnP F X Y w B v k n) (hb:Below w.heap.size w w'):OwnP F X Y w' B v k n:=by
 obtain⟨hv,xs,h1,h2⟩:=h
 exact⟨hv,xs,h1.keep hb,fun i hi=>(h2 i hi).keep hb⟩
theorem OwnP.push {F:Nat→Nat→Rat} {X Y:Nat→Int×Int} {W w':World} {B k n:Nat} {v v':Value} {xs:List Value} (hv:v.ownBlock=none∨0<k) (h1:OwnK NotU32 W B 57 5 v k xs) (h2:∀ i,i<k→PX W xs i n (F i) (X i) (Y i))
  {g cap:Nat} {x y:Int×Int} (hq:QRow (fun j=>IsQ (F k j)) W g n n) (hx:X k=x) (hy:Y k=y) (h3:OwnK NotU32 w' B 57 5 v' (k+1) (xs++[.slice (some ⟨g,0,none⟩) n cap,.int .i64 x.1,.int .i64 x.2,.int .i64 y.1,.int .i64 y.2])) (hg:W.grownBy w' v.ownBlock):OwnP F X Y w' B v' (k+1) n:=by
 have h32:=I32.grown (K:=NotU32) (fun x=>not_u32 x) h1.2 hg
 have hl:xs.length=k*5:=h1.1.1
 have hne:∀ g',Sts W g'→some g'≠v.ownBlock:=by
  intro g' hs e
  rcases hv with hv|hv
  ·rw[hv]at e;cases e
  ·obtain⟨_,_,_,e1,_⟩:=h2 0 hv
   rcases own_shape h1.1 with⟨rfl,_⟩ |⟨g0,cap0,rfl,_⟩
   ·simp[Value.ownBlock]at e
   ·simp[Value.ownBlock]at e
    subst e
    exact hs.2 1 _ (own_read h1.1 (j:=1) (by simpa using e1)) _ _ rfl
 refine⟨.inr (Nat.succ_pos k),_,h3,fun i hi=>?_⟩
 by_cases hik:i<k
 ·obtain⟨g',cap',e0,e1,e2,e3,e4,e5⟩:=h2 i hik
  have hk:∀ (j:Nat) (u:Value),xs[j]?=some u→(xs++[.slice (some ⟨g,0,none⟩) n cap,.int .i64 x.1,.int .i64 x.2,.int .i64 y.1,.int .i64 y.2])[j]?=some u:=by
   intro j u e
   rw[List.getElem?_append_left]
   ·exact e
   ·rcases Nat.lt_or_ge j xs.length with hlt|hge
    ·exact hlt
    ·rw[List.getElem?_eq_none hge]at e;cases e
  exact⟨g',cap',hk _ _ e0,hk _ _ e1,hk _ _ e2,hk _ _ e3,hk _ _ e4,e5.grown (fun _=>IsQ.solid _) h32 hg (hne g' e5.sts)⟩
 ·obtain rfl:i=k:=by omega
  refine⟨g,cap,?_,?_,?_,?_,?_,hq.grown (fun _=>IsQ.solid _) h32 hg (hne g hq.sts)⟩
  ·rw[List.getElem?_append_right (by omega),hl,show i*5 - i*5=0 by omega];rfl
  ·rw[List.getElem?_append_right (by omega),hl,show i*5+1 - i*5=1 by omega,hx];rfl
  ·rw[List.getElem?_append_right (by omega),hl,show i*5+2 - i*5=2 by omega,hx];rfl
  ·rw[List.getElem?_append_right (by omega),hl,show i*5+3 - i*5=3 by omega,hy];rfl
  ·rw[List.getElem?_append_right (by omega),hl,show i*5+4 - i*5=4 by omega,hy];rfl
def PLs (F:Nat→Nat→Rat) (X Y:Nat→Int×Int) (w:World) (v:Value) (k n:Nat):Prop:=
 (k=0∧∃ a c,v=.slice a 0 c)∨∃ g0 c0,v=.slice (some ⟨g0,0,none⟩) k c0∧g0<w.heap.size∧∀ i,i<k→∃ g cap,w.cell? ⟨g0,i*5,none⟩=some (.slice (some ⟨g,0,none⟩) n cap)∧w.cell? ⟨g0,i*5+1,none⟩=some (.int .i64 (X i).1)∧w.cell? ⟨g0,i*5+2,none⟩=some (.int .i64 (X i).2)∧w.cell? ⟨g0,i*5+3,none⟩=some (.int .i64 (Y i).1)∧w.cell? ⟨g0,i*5+4,none⟩=some (.int .i64 (Y i).2)∧QRow (fun j=>IsQ (F i j)) w g n n
theorem PLs.keep {F:Nat→Nat→Rat} {X Y:Nat→Int×Int} {w w':World} {k n:Nat} {v:Value} (h:PLs F X Y w v k n) (hb:Below w.heap.size w w'):PLs F X Y w' v k n:=by
 rcases h with h |⟨g0,c0,e,hg,hc⟩
 ·exact .inl h
 ·refine .inr ⟨g0,c0,e,Nat.lt_of_lt_of_le hg hb.size,fun i hi=>?_⟩
  obtain⟨g,cap,e0,e1,e2,e3,e4,e5⟩:=hc i hi
  have hk:∀ j v,w.cell? ⟨g0,j,none⟩=some v→w'.cell? ⟨g0,j,none⟩=some v:=fun j v e=>(hb.cell (p:=⟨g0,j,none⟩) hg).trans e
  exact⟨g,cap,hk _ _ e0,hk _ _ e1,hk _ _ e2,hk _ _ e3,hk _ _ e4,e5.keep (fun _=>IsQ.solid _) hb⟩
def IsA (x y:Int):FP:=fun w s p n c t q m d=>Zr w s p n c x∧Zr w t q m d y
theorem IsA.solid (x y:Int):Solid (IsA x y):=fun _ _ _ _ _ _ _ _ _ _ h hq=>⟨hq.1.i32 h,hq.2.i32 h⟩
def Shorts (x y:Nat→Int) (w:World) (vp:Option Addr) (i:Nat):Prop:=∀ j,j<i→∃ g o,vp=some ⟨g,o,none⟩∧g<w.heap.size∧QE (IsR (x j) (y j)) w g (o+j*4)
theorem Shorts.ql {x y:Nat→Int} {w:World} {vp:Option Addr} {n c:Nat} (h:Shorts x y w vp n):QL (fun j=>IsR (x j) (y j)) w (.slice vp n c) n:=by
 rcases Nat.eq_zero_or_pos n with rfl|h0
 ·exact .inl ⟨rfl,_,_,rfl⟩
 ·obtain⟨g,o,rfl,hg,_⟩:=h 0 h0
  refine .inr ⟨g,o,c,rfl,hg,fun j hj=>?_⟩
  obtain⟨g',o',e,_,hq⟩:=h j hj
  injection e with e
  injection e with e1 e2
  subst e1;subst e2
  exact hq
end Go.Proofs.YtenlbhlllgppmaaGreatDoor
namespace Go.Proofs.YtenlbhlllgppmaaGreatDoor
theorem bez (a b:Nat):∃ x y:Int,(a:Int)*x+b*y=(Nat.gcd a b:Int):=by
 induction a,b using Nat.gcd.induction with
 | H0 n=>exact⟨0,1,by simp⟩
 | H1 m n hm ih=>
  obtain⟨x,y,h⟩:=ih
  refine⟨y - (n / m:Nat)*x,x,?_⟩
  rw[Nat.gcd_rec m n,← h]
  have e:(n:Int)=((n % m:Nat):Int)+m*((n / m:Nat):Int):=by
   have:=Nat.mod_add_div n m
   exact_mod_cast this.symm
  conv=>lhs;rw[e]
  rw[Int.mul_sub,Int.add_mul,← Int.mul_assoc]
  grind
theorem unit_inv (n s:Nat) (hn:0<n) (h:Nat.gcd s n=1):∃ r,1≤r∧r≤n∧Nat.gcd r n=1∧r*s % n=1 % n:=by
 obtain⟨x,y,e⟩:=bez s n
 rw[h]at e
 have hx0:=Int.emod_nonneg x (show(n:Int)≠0 by omega)
 have hx1:=Int.emod_lt_of_pos x (show(0:Int)<n by omega)
 have key:∀ r:Nat,(r:Int) % n=x % n→r*s % n=1 % n:=by
  intro r hr
  have h1:((r*s:Nat):Int) % n=((1:Nat):Int) % n:=by
   rw[show((r*s:Nat):Int)=(r:Int)*s by push_cast;rfl,Int.mul_emod,hr,← Int.mul_emod,← Int.add_mul_emod_self_left (x*s) n y,Int.mul_comm x,e]
  exact_mod_cast h1
 have cop:∀ r:Nat,r*s % n=1 % n→Nat.gcd r n=1:=by
  intro r hr
  have h1:Nat.gcd r n∣r*s % n:=(Nat.dvd_mod_iff (Nat.gcd_dvd_right r n)).2 (Nat.dvd_trans (Nat.gcd_dvd_left r n) (Nat.dvd_mul_right r s))
  rw[hr]at h1
  exact Nat.dvd_one.1 ((Nat.dvd_mod_iff (Nat.gcd_dvd_right r n)).1 h1)
 by_cases h0:(x % n).toNat=0
 ·have hk:=key n (by rw[Int.emod_self];omega)
  exact⟨n,hn,Nat.le_refl _,cop n hk,hk⟩
 ·have hk:=key (x % n).toNat (by rw[Int.toNat_of_nonneg hx0,Int.emod_emod])
  exact⟨(x % n).toNat,by omega,by omega,cop _ hk,hk⟩
def pmul (n s k:Nat):Nat:=s*(k / n) % n*n+s*(k % n) % n
def pok (n k:Nat):Bool:=Nat.gcd (Nat.gcd (k / n) (k % n)) n==1
def pun (n s:Nat):Bool:=Nat.gcd s n==1
def pseen (n:Nat) (l:List Nat) (k:Nat):Bool:=l.any fun a=>(List.range n).any fun i=>pun n (i+1)&&pmul n (i+1) a==k
def pts (n:Nat):Nat→List Nat
 | 0=>[]
 | k+1=>if pok n k && !pseen n (pts n k) k then pts n k++[k]else pts n k
theorem pts_succ (n k:Nat):pts n (k+1)=if pok n k && !pseen n (pts n k) k then pts n k++[k]else pts n k:=rfl
theorem pts_length (n k:Nat):(pts n k).length≤k:=by
 induction k with
 | zero=>exact Nat.le_refl _
 | succ k ih=>
  rw[pts_succ]
  split
  ·rw[List.length_append];simp;exact ih
  ·omega
def plst (n k:Nat):Bool:=(List.range n).all fun i=>!pun n (i+1)||decide (k≤pmul n (i+1) k)
theorem pmul_div {n:Nat} (hn:0<n) (s k:Nat):pmul n s k / n=s*(k / n) % n:=by
 unfold pmul
 rw[Nat.mul_comm,Nat.mul_add_div hn,Nat.div_eq_of_lt (Nat.mod_lt _ hn),Nat.add_zero]
theorem pmul_mod (n s k:Nat):pmul n s k % n=s*(k % n) % n:=by
 unfold pmul
 rw[Nat.mul_comm,Nat.mul_add_mod,Nat.mod_mod]
theorem pmul_lt {n:Nat} (hn:0<n) (s k:Nat):pmul n s k<n*n:=by
 have h1:=Nat.mod_lt (s*(k / n)) hn
 have h2:=Nat.mod_lt (s*(k % n)) hn
 unfold pmul
 calc s*(k / n) % n*n+s*(k % n) % n<s*(k / n) % n*n+n:=by omega
  _=(s*(k / n) % n+1)*n:=by rw[Nat.add_mul,Nat.one_mul]
  _≤n*n:=Nat.mul_le_mul_right _ h1
theorem pmul_comp {n:Nat} (hn:0<n) (s t k:Nat):pmul n s (pmul n t k)=pmul n (s*t) k:=by
 have h1:=pmul_div hn t k
 have h2:=pmul_mod n t k
 unfold pmul at h1 h2 ⊢
 rw[h1,h2]
 rw[Nat.mul_mod_mod,Nat.mul_mod_mod,← Nat.mul_assoc,← Nat.mul_assoc]
theorem pmul_congr {n s t:Nat} (h:s % n=t % n) (k:Nat):pmul n s k=pmul n t k:=by
 unfold pmul
 rw[Nat.mul_mod s,h,← Nat.mul_mod,Nat.mul_mod s (k % n),h,← Nat.mul_mod]
theorem pmul_one {n k:Nat} (hk:k<n*n):pmul n 1 k=k:=by
 have hn:0<n:=by
  rcases Nat.eq_zero_or_pos n with h|h
  ·subst h;simp at hk
  ·exact h
 unfold pmul
 rw[Nat.one_mul,Nat.one_mul,Nat.mod_mod,Nat.mod_eq_of_lt (Nat.div_lt_of_lt_mul hk),Nat.mul_comm,Nat.div_add_mod]
theorem pun_mul {n s t:Nat} (hs:pun n s=true) (ht:pun n t=true):pun n (s*t)=true:=by
 unfold pun at *
 simp only[beq_iff_eq]at *
 exact Nat.Coprime.mul_left hs ht
theorem pun_small {n s:Nat} (hn:0<n) (hs:pun n s=true):∃ r,1≤r∧r≤n∧pun n r=true∧r % n=s % n:=by
 unfold pun at *
 simp only[beq_iff_eq]at *
 have h1:Nat.gcd (s % n) n=1:=by rw[← Nat.gcd_rec,Nat.gcd_comm];exact hs
 by_cases h0:s % n=0
 ·rw[h0,Nat.gcd_zero_left]at h1
  exact⟨n,hn,Nat.le_refl _,by rw[Nat.gcd_self];exact h1,by rw[Nat.mod_self,h0]⟩
 ·exact⟨s % n,by omega,Nat.le_of_lt (Nat.mod_lt _ hn),h1,Nat.mod_mod _ _⟩
theorem pun_inv {n s:Nat} (hn:0<n) (hs:pun n s=true):∃ r,1≤r∧r≤n∧pun n r=true∧r*s % n=1 % n:=by
 obtain⟨r,h1,h2,h3,h4⟩:=unit_inv n s hn (by simpa [pun] using hs)
 exact⟨r,h1,h2,by simp[pun,h3],h4⟩
theorem pmul_inv {n s k:Nat} (hk:k<n*n) (hs:pun n s=true):∃ r,1≤r∧r≤n∧pun n r=true∧pmul n r (pmul n s k)=k:=by
 have hn:0<n:=by
  rcases Nat.eq_zero_or_pos n with h|h
  ·subst h;simp at hk
  ·exact h
 obtain⟨r,h1,h2,h3,h4⟩:=pun_inv hn hs
 exact⟨r,h1,h2,h3,by rw[pmul_comp hn,pmul_congr h4,pmul_one hk]⟩
theorem pok_mul {n s k:Nat} (hn:0<n) (hs:pun n s=true) (hk:pok n k=true):pok n (pmul n s k)=true:=by
 unfold pok pun at *
 simp only[beq_iff_eq]at *
 rw[pmul_div hn,pmul_mod n]
 generalize k / n=u at *
 generalize k % n=v at *
 refine Nat.dvd_one.1 ?_
 have hd:∀ g,g∣s*u % n→g∣s*v % n→g∣n→g∣1:=by
  intro g h1 h2 h3
  have h1:=(Nat.dvd_mod_iff h3).1 h1
  have h2:=(Nat.dvd_mod_iff h3).1 h2
  have hg:Nat.Coprime g s:=by
   have:Nat.gcd g s∣Nat.gcd s n:=Nat.dvd_gcd (Nat.gcd_dvd_right g s) (Nat.dvd_trans (Nat.gcd_dvd_left g s) h3)
   rw[hs]at this
   exact Nat.dvd_one.1 this
  have h1:=Nat.Coprime.dvd_of_dvd_mul_left hg h1
  have h2:=Nat.Coprime.dvd_of_dvd_mul_left hg h2
  rw[← hk]
  exact Nat.dvd_gcd (Nat.dvd_gcd h1 h2) h3
 exact hd _ (Nat.dvd_trans (Nat.gcd_dvd_left _ _) (Nat.gcd_dvd_left _ _)) (Nat.dvd_trans (Nat.gcd_dvd_left _ _) (Nat.gcd_dvd_right _ _)) (Nat.gcd_dvd_right _ _)
theorem plst_iff {n k:Nat}:plst n k=true↔∀ s,1≤s→s≤n→pun n s=true→k≤pmul n s k:=by
 unfold plst
 simp only[List.all_eq_true,List.mem_range,Bool.or_eq_true,Bool.not_eq_true',decide_eq_true_eq]
 constructor
 ·intro h s h1 h2 h3
  have:=h (s - 1) (by omega)
  rw[show s - 1+1=s by omega,h3]at this
  simpa using this
 ·intro h i hi
  cases hu:pun n (i+1)with
  | false=>exact .inl rfl
  | true=>exact .inr (h (i+1) (by omega) (by omega) hu)
theorem pseen_iff {n:Nat} {l:List Nat} {k:Nat}:pseen n l k=true↔∃ a,a∈l∧∃ s,1≤s∧s≤n∧pun n s=true∧pmul n s a=k:=by
 unfold pseen
 simp only[List.any_eq_true,List.mem_range,Bool.and_eq_true,beq_iff_eq]
 constructor
 ·rintro⟨a,ha,i,hi,hu,e⟩
  exact⟨a,ha,i+1,by omega,by omega,hu,e⟩
 ·rintro⟨a,ha,s,h1,h2,hu,e⟩
  exact⟨a,ha,s - 1,by omega,by rw[show s - 1+1=s by omega];exact hu,by rw[show s - 1+1=s by omega];exact e⟩
theorem pts_lt {n:Nat}:∀ {k a:Nat},a∈pts n k→a<k:=by
 intro k
 induction k with
 | zero=>intro a h;simp[pts]at h
 | succ k ih=>
  intro a h
  rw[pts_succ]at h
  split at h
  ·rcases List.mem_append.1 h with h|h
   ·have:=ih h;omega
   ·simp at h;omega
  ·have:=ih h;omega
theorem pts_grow {n a:Nat} {k m:Nat} (hkm:k≤m) (h:a∈pts n k):a∈pts n m:=by
 induction m with
 | zero=>have:k=0:=by omega
         subst this;exact h
 | succ m ih=>
  by_cases e:k=m+1
  ·subst e;exact h
  ·have:=ih (by omega)
   rw[pts_succ]
   split
   ·exact List.mem_append_left _ this
   ·exact this
theorem pts_ok {n:Nat}:∀ {k a:Nat},a∈pts n k→pok n a=true∧pseen n (pts n a) a=false:=by
 intro k
 induction k with
 | zero=>intro a h;simp[pts]at h
 | succ k ih=>
  intro a h
  rw[pts_succ]at h
  split at h
  ·rename_i hc
   rcases List.mem_append.1 h with h|h
   ·exact ih h
   ·simp at h hc;subst h;exact hc
  ·exact ih h
theorem pts_new {n k:Nat} (h1:pok n k=true) (h2:pseen n (pts n k) k=false):k∈pts n (k+1):=by
 rw[pts_succ]
 rw[if_pos (by rw[h1,h2];rfl)]
 simp
theorem pts_least {n:Nat} (hn:0<n):∀ k,k<n*n→pok n k=true→(pseen n (pts n k) k=false↔plst n k=true):=by
 intro k
 induction k using Nat.strongRecOn with
 | _ k ih=>
  intro hk hok
  constructor
  ·intro hs
   rw[plst_iff]
   intro s h1 h2 hu
   rcases Nat.lt_or_ge (pmul n s k) k with hlt|hge
   ·exfalso
    have hP:∃ m,∃ t,1≤t∧t≤n∧pun n t=true∧pmul n t k=m:=⟨_,s,h1,h2,hu,rfl⟩
    have hmin:∀ m,(∃ t,1≤t∧t≤n∧pun n t=true∧pmul n t k=m)→m<k→False:=by
     intro m
     induction m using Nat.strongRecOn with
     | _ m ihm=>
      rintro⟨t,t1,t2,tu,e⟩ hm
      have hm':m<n*n:=by omega
      by_cases hl:plst n m=true
      ·have hmo:pok n m=true:=by rw[← e];exact pok_mul hn tu hok
       have hms:=(ih m hm hm' hmo).2 hl
       have hmem:=pts_grow (m:=k) hm (pts_new hmo hms)
       obtain⟨r,r1,r2,ru,re⟩:=pmul_inv (k:=k) hk tu
       have:pseen n (pts n k) k=true:=pseen_iff.2 ⟨m,hmem,r,r1,r2,ru,by rw[← e];exact re⟩
       rw[this]at hs;cases hs
      ·rw[plst_iff]at hl
       have:∃ r,1≤r∧r≤n∧pun n r=true∧pmul n r m<m:=by
        refine Classical.byContradiction fun hno=>hl fun r r1 r2 ru=>?_
        exact Nat.le_of_not_lt fun hlt=>hno ⟨r,r1,r2,ru,hlt⟩
       obtain⟨r,r1,r2,ru,hlt'⟩:=this
       obtain⟨q,q1,q2,qu,qe⟩:=pun_small hn (pun_mul ru tu)
       refine ihm (pmul n r m) hlt' ⟨q,q1,q2,qu,?_⟩ (by omega)
       rw[pmul_congr qe,← pmul_comp hn,e]
    exact hmin _ ⟨s,h1,h2,hu,rfl⟩ hlt
   ·exact hge
  ·intro hl
   cases hs:pseen n (pts n k) k with
   | false=>rfl
   | true=>
    exfalso
    obtain⟨a,ha,s,s1,s2,su,e⟩:=pseen_iff.1 hs
    have hak:=pts_lt ha
    obtain⟨r,r1,r2,ru,re⟩:=pmul_inv (k:=a) (by omega) su
    rw[e]at re
    have:=plst_iff.1 hl r r1 r2 ru
    omega
theorem pts_filter {n:Nat} (hn:0<n):∀ k,k≤n*n→pts n k=(List.range k).filter fun a=>pok n a&&plst n a:=by
 intro k
 induction k with
 | zero=>intro _;rfl
 | succ k ih=>
  intro hk
  rw[List.range_succ,List.filter_append,← ih (by omega)]
  rw[pts_succ]
  cases hok:pok n k with
  | false=>simp[hok]
  | true=>
   have h:=pts_least hn k (by omega) hok
   cases hl:plst n k with
   | false=>
    have:pseen n (pts n k) k=true:=by
     cases hs:pseen n (pts n k) k with
     | true=>rfl
     | false=>rw[h.1 hs]at hl;cases hl
    simp[hok,hl,this]
   | true=>
    have:pseen n (pts n k) k=false:=h.2 hl
    simp[hok,hl,this]
theorem pts_unique {n a b s:Nat} (ha:a∈pts n (n*n)) (hb:b∈pts n (n*n)) (hs:pun n s=true) (e:pmul n s a=b):a=b:=by
 have hn:0<n:=by
  rcases Nat.eq_zero_or_pos n with h|h
  ·subst h;simp[pts]at ha
  ·exact h
 rw[pts_filter hn _ (Nat.le_refl _)]at ha hb
 simp only[List.mem_filter,List.mem_range,Bool.and_eq_true]at ha hb
 obtain⟨s',s1,s2,su,se⟩:=pun_small hn hs
 have h1:=plst_iff.1 ha.2.2 s' s1 s2 su
 rw[pmul_congr se,e]at h1
 obtain⟨r,r1,r2,ru,re⟩:=pmul_inv (k:=a) ha.1 hs
 rw[e]at re
 have h2:=plst_iff.1 hb.2.2 r r1 r2 ru
 omega
theorem pmul_free {n s t k:Nat} (hn:0<n) (hk:pok n k=true) (e:pmul n s k=pmul n t k):s % n=t % n:=by
 have e1:s*(k / n) % n=t*(k / n) % n:=by rw[← pmul_div hn,← pmul_div hn,e]
 have e2:s*(k % n) % n=t*(k % n) % n:=by rw[← pmul_mod n,← pmul_mod n,e]
 unfold pok at hk
 simp only[beq_iff_eq]at hk
 generalize k / n=u at *
 generalize k % n=v at *
 obtain⟨x,y,h1⟩:=bez u v
 obtain⟨z,q,h2⟩:=bez (Nat.gcd u v) n
 rw[hk]at h2
 have f1:((n:Int))∣(s:Int)*u - t*u:=by
  apply Int.dvd_of_emod_eq_zero
  rw[Int.sub_emod]
  have:((s:Int)*u) % n=((t:Int)*u) % n:=by exact_mod_cast e1
  rw[this];simp
 have f2:((n:Int))∣(s:Int)*v - t*v:=by
  apply Int.dvd_of_emod_eq_zero
  rw[Int.sub_emod]
  have:((s:Int)*v) % n=((t:Int)*v) % n:=by exact_mod_cast e2
  rw[this];simp
 obtain⟨c1,f1⟩:=f1
 obtain⟨c2,f2⟩:=f2
 have key:(s:Int) - t=n*((c1*x+c2*y)*z+(s - t)*q):=by
  have a1:((s:Int) - t)*u=n*c1:=by rw[Int.sub_mul];exact f1
  have a2:((s:Int) - t)*v=n*c2:=by rw[Int.sub_mul];exact f2
  have a3:((s:Int) - t)*(Nat.gcd u v:Int)=n*(c1*x+c2*y):=by
   rw[← h1,Int.mul_add,← Int.mul_assoc,← Int.mul_assoc,a1,a2,Int.mul_add,Int.mul_assoc,Int.mul_assoc]
  have a4:((s:Int) - t)*1=n*(c1*x+c2*y)*z+n*((s - t)*q):=by
   have h2':((Nat.gcd u v:Nat):Int)*z+n*q=1:=by exact_mod_cast h2
   rw[← h2',Int.mul_add,← Int.mul_assoc,a3]
   congr 1
   rw[Int.mul_left_comm]
  rw[Int.mul_one]at a4
  refine a4.trans ?_
  rw[Int.mul_add (n:Int) ((c1*x+c2*y)*z),Int.mul_assoc]
 have:(s:Int) % n=(t:Int) % n:=by
  rw[show(s:Int)=t+n*((c1*x+c2*y)*z+(s - t)*q)by omega,Int.add_mul_emod_self_left]
 exact_mod_cast this
def tset (f:Nat→Nat×Int) (k:Nat) (x:Nat×Int):Nat→Nat×Int:=fun i=>if i=k then x else f i
def plRow (n l:Nat) (c:Int) (L:List Nat):Nat→(Nat→Nat×Int)→(Nat→Nat×Int)
 | 0,f=>f
 | j+1,f=>tset (plRow n l c L j f) (pmul n l (L.getD j 0)) (j,c)
def plAll (n:Nat) (D:Int) (L:List Nat):Nat→(Nat→Nat×Int)
 | 0=>fun _=>(0,0)
 | l+1=>if pun n (l+1)then plRow n (l+1) (Pl.kroP D (l+1)) L L.length (plAll n D L l)else plAll n D L l
def TabOk (m:Nat) (f:Nat→Nat×Int):Prop:=∀ k,f k=(0,0)∨(f k).1<m∧((f k).2=0∨(f k).2=1∨(f k).2=-1)
theorem TabOk.set {m:Nat} {f:Nat→Nat×Int} (h:TabOk m f) (k:Nat) (x:Nat×Int) (hx:x.1<m) (hc:x.2=0∨x.2=1∨x.2=-1):TabOk m (tset f k x):=by
 intro i
 unfold tset
 split
 ·exact .inr ⟨hx,hc⟩
 ·exact h i
theorem plRow_ok {n l:Nat} {c:Int} {L:List Nat} (hc:c=0∨c=1∨c=-1) {f:Nat→Nat×Int} (h:TabOk L.length f):∀ j,j≤L.length→TabOk L.length (plRow n l c L j f):=by
 intro j
 induction j with
 | zero=>intro _;exact h
 | succ j ih=>intro hj;exact(ih (by omega)).set _ _ (by exact hj) hc
theorem plAll_ok {n:Nat} {D:Int} {L:List Nat} (hk:∀ l,Pl.kroP D l=0∨Pl.kroP D l=1∨Pl.kroP D l=-1):∀ l,TabOk L.length (plAll n D L l):=by
 intro l
 induction l with
 | zero=>intro k;exact .inl rfl
 | succ l ih=>
  unfold plAll
  split
  ·exact plRow_ok (hk _) ih _ (Nat.le_refl _)
  ·exact ih
abbrev M4:=Int×Int×Int×Int
theorem lin_abs (a b:Int) (p:Nat→Int) (K:Nat) (hp:∀ j,(p j).natAbs≤K) (j:Nat):(lin a b p j).natAbs≤(a.natAbs+b.natAbs)*K:=by
 unfold lin
 have h1:(if 0<j then a*p (j - 1)else 0).natAbs≤a.natAbs*K:=by
  split
  ·rw[Int.natAbs_mul];exact Nat.mul_le_mul_left _ (hp _)
  ·simp
 have h2:(b*p j).natAbs≤b.natAbs*K:=by rw[Int.natAbs_mul];exact Nat.mul_le_mul_left _ (hp _)
 have h3:=Int.natAbs_add_le (if 0<j then a*p (j - 1)else 0) (b*p j)
 rw[Nat.add_mul]
 omega
theorem mv_abs (i:Nat) (a b c d:Int) (h1:a.natAbs+b.natAbs≤2) (h2:c.natAbs+d.natAbs≤2) (k:Nat):∀ j,(mv i a b c d k j).natAbs≤2 ^ k:=by
 induction k with
 | zero=>
  intro j
  show(if j=0 then(1:Int)else 0).natAbs≤1
  split <;> simp
 | succ k ih=>
  intro j
  rw[mv,Nat.pow_succ,Nat.mul_comm (2 ^ k)]
  split
  ·exact Nat.le_trans (lin_abs a b _ _ ih j) (Nat.mul_le_mul_right _ h1)
  ·exact Nat.le_trans (lin_abs c d _ _ ih j) (Nat.mul_le_mul_right _ h2)
theorem lin_times (a b x:Int) (p:Nat→Int) (j:Nat):lin a b (fun j=>x*p j) j=x*lin a b p j:=by
 unfold lin
 split <;> grind
def mvd (n w:Nat) (L:List Nat) (f:Nat→Nat×Int) (i j:Nat) (g:M4):Nat→Int:=
 let u:Int:=(L.getD j 0 / n:Nat)
 let v:Int:=(L.getD j 0 % n:Nat)
 let a:=g.1 % n
 let b:=g.2.1 % n
 let c:=g.2.2.1 % n
 let d:=g.2.2.2 % n
 let p:=f (((u*a+v*c) % n).toNat*n+((u*b+v*d) % n).toNat)
 fun k=>if p.2=0 then 0 else if k % L.length=p.1∧k / L.length≤w then p.2*mv i g.1 g.2.1 g.2.2.1 g.2.2.2 w (k / L.length)else 0
theorem mvd_small {n w:Nat} {L:List Nat} {f:Nat→Nat×Int} {i j:Nat} {g:M4} (hf:TabOk L.length f) (h1:g.1.natAbs+g.2.1.natAbs≤2) (h2:g.2.2.1.natAbs+g.2.2.2.natAbs≤2) (k:Nat):(mvd n w L f i j g k).natAbs≤2 ^ w:=by
 have key:∀ p:Nat×Int,(p=(0,0)∨p.1<L.length∧(p.2=0∨p.2=1∨p.2=-1))→(if p.2=0 then(0:Int)else if k % L.length=p.1∧k / L.length≤w then p.2*mv i g.1 g.2.1 g.2.2.1 g.2.2.2 w (k / L.length)else 0).natAbs≤2 ^ w:=by
  intro p hp
  have hp2:p.2.natAbs≤1:=by rcases hp with rfl |⟨_,h|h|h⟩ <;> simp[*]
  have hm:=mv_abs i g.1 g.2.1 g.2.2.1 g.2.2.2 h1 h2 w (k / L.length)
  split
  ·simp
  split
  ·rw[Int.natAbs_mul]
   exact Nat.le_trans (Nat.mul_le_mul hp2 hm) (by rw[Nat.one_mul];exact Nat.le_refl _)
  ·simp
 exact key _ (hf _)
def gTurn:M4:=(0,-1,1,0)
def gThird:M4:=(0,-1,1,-1)
def gTwice:M4:=(-1,1,-1,0)
def relE (n w:Nat) (L:List Nat) (f:Nat→Nat×Int) (r k:Nat):Int:=
 if r<(w+1)*L.length then(if k=r then 1 else 0)+mvd n w L f (r / L.length) (r % L.length) gTurn k
 else(if k=r - (w+1)*L.length then 1 else 0)+mvd n w L f ((r - (w+1)*L.length) / L.length) ((r - (w+1)*L.length) % L.length) gThird k+mvd n w L f ((r - (w+1)*L.length) / L.length) ((r - (w+1)*L.length) % L.length) gTwice k
theorem relE_small {n w:Nat} {L:List Nat} {f:Nat→Nat×Int} (hf:TabOk L.length f) (hw:w≤22) (r k:Nat):(relE n w L f r k).natAbs≤16777216:=by
 have hp:2 ^ w≤4194304:=Nat.le_trans (Nat.pow_le_pow_right (by decide) hw) (by decide)
 have h1:=fun i j=>mvd_small (n:=n) (w:=w) (i:=i) (j:=j) (g:=gTurn) hf (by decide) (by decide) k
 have h2:=fun i j=>mvd_small (n:=n) (w:=w) (i:=i) (j:=j) (g:=gThird) hf (by decide) (by decide) k
 have h3:=fun i j=>mvd_small (n:=n) (w:=w) (i:=i) (j:=j) (g:=gTwice) hf (by decide) (by decide) k
 unfold relE
 split
 ·have:=h1 (r / L.length) (r % L.length)
  split <;> omega
 ·have a2:=h2 ((r - (w+1)*L.length) / L.length) ((r - (w+1)*L.length) % L.length)
  have a3:=h3 ((r - (w+1)*L.length) / L.length) ((r - (w+1)*L.length) % L.length)
  split <;> omega
def relOf (n w:Nat) (D:Int):Nat→Nat→Int:=relE n w (pts n (n*n)) (plAll n D (pts n (n*n)) n)
def plcOf (n:Nat) (D u v:Int):Nat×Int:=plAll n D (pts n (n*n)) n ((u % n).toNat*n+(v % n).toNat)
theorem plRow_miss {n l:Nat} {c:Int} {L:List Nat} {f:Nat→Nat×Int} {k:Nat}:∀ j,(∀ i,i<j→pmul n l (L.getD i 0)≠k)→plRow n l c L j f k=f k
 | 0,_=>rfl
 | j+1,h=>by
  rw[plRow,tset,if_neg (fun e=>h j (Nat.lt_succ_self _) e.symm)]
  exact plRow_miss j (fun i hi=>h i (by omega))
theorem plRow_hit {n l:Nat} {c:Int} {L:List Nat} {f:Nat→Nat×Int} {k i:Nat} (hk:pmul n l (L.getD i 0)=k):∀ j,i<j→(∀ i',i'<j→pmul n l (L.getD i' 0)=k→i'=i)→plRow n l c L j f k=(i,c)
 | 0,hi,_=>absurd hi (Nat.not_lt_zero _)
 | j+1,hi,h=>by
  rw[plRow,tset]
  by_cases e:k=pmul n l (L.getD j 0)
  ·rw[if_pos e,h j (Nat.lt_succ_self _) e.symm]
  ·rw[if_neg e]
   refine plRow_hit hk j ?_ (fun i' h1 h2=>h i' (by omega) h2)
   have:i≠j:=fun e2=>e (by rw[← e2,hk])
   omega
theorem pts_nodup {n:Nat} (hn:0<n):(pts n (n*n)).Nodup:=by
 rw[pts_filter hn _ (Nat.le_refl _)]
 exact List.nodup_range.filter _
theorem getD_mem {L:List Nat} {i:Nat} (hi:i<L.length):L.getD i 0∈L:=by
 rw[List.getD_eq_getElem?_getD,List.getElem?_eq_getElem hi]
 exact List.getElem_mem hi
theorem getD_inj {L:List Nat} (h:L.Nodup) {i j:Nat} (hi:i<L.length) (hj:j<L.length) (e:L.getD i 0=L.getD j 0):i=j:=by
 rw[List.getD_eq_getElem?_getD,List.getElem?_eq_getElem hi,List.getD_eq_getElem?_getD,List.getElem?_eq_getElem hj]at e
 exact(List.getElem_inj h).1 (by simpa using e)
theorem place_unique {n i j s t:Nat} (hn:0<n) (hi:i<(pts n (n*n)).length) (hj:j<(pts n (n*n)).length) (hs:pun n s=true) (ht:pun n t=true)
  (e:pmul n s ((pts n (n*n)).getD i 0)=pmul n t ((pts n (n*n)).getD j 0)):i=j∧s % n=t % n:=by
 have mi:=getD_mem hi
 have mj:=getD_mem hj
 have hik:=pts_lt mi
 obtain⟨r,_,_,ru,re⟩:=pmul_inv (k:=(pts n (n*n)).getD i 0) hik hs
 have h1:pmul n (r*t) ((pts n (n*n)).getD j 0)=(pts n (n*n)).getD i 0:=by rw[← pmul_comp hn,← e,re]
 have h2:=pts_unique mj mi (pun_mul ru ht) h1
 have hij:=getD_inj (pts_nodup hn) hi hj h2.symm
 subst hij
 exact⟨rfl,pmul_free hn (pts_ok mi).1 e⟩
theorem plAll_hit {n:Nat} {D:Int} {j s k:Nat} (hn:0<n) (hj:j<(pts n (n*n)).length) (h1:1≤s) (hsn:s≤n) (hu:pun n s=true) (e:pmul n s ((pts n (n*n)).getD j 0)=k):∀ m,s≤m→m≤n→plAll n D (pts n (n*n)) m k=(j,Pl.kroP D s)
 | 0,h,_=>by omega
 | m+1,h,hm=>by
  rw[plAll]
  by_cases hs:s=m+1
  ·subst hs
   rw[if_pos hu]
   exact plRow_hit e _ hj (fun i hi he=>(place_unique hn hi hj hu hu (he.trans e.symm)).1)
  ·have hrec:=plAll_hit hn hj h1 hsn hu e m (by omega) (by omega) (D:=D)
   split
   ·rename_i hu2
    rw[plRow_miss _ (fun i hi he=>?_)]
    ·exact hrec
    ·have h2:=(place_unique hn hi hj hu2 hu (he.trans e.symm)).2
     rcases Nat.lt_or_ge (m+1) n with h3|h3
     ·rw[Nat.mod_eq_of_lt h3,Nat.mod_eq_of_lt (by omega)]at h2
      omega
     ·obtain rfl:m+1=n:=by omega
      rw[Nat.mod_self,Nat.mod_eq_of_lt (by omega)]at h2
      omega
   ·exact hrec
theorem mvd_index (u v A C:Int) (n:Nat):(u*(A % n)+v*(C % n)) % n=(u*A+v*C) % n:=by
 rw[Int.add_emod,Int.mul_emod u (A % n),Int.mul_emod v (C % n),Int.emod_emod_of_dvd A (Int.dvd_refl _),Int.emod_emod_of_dvd C (Int.dvd_refl _),← Int.mul_emod,← Int.mul_emod,← Int.add_emod]
namespace Pl
def mask (l:List Int) (v:Int):Nat:=l.foldr (fun x n=>2*n+if x=v then 1 else 0) 0
def mulAt (d pos neg r s:Nat):Bool:=if Nat.testBit neg r==Nat.testBit neg s then Nat.testBit pos (r*s % d)else Nat.testBit neg (r*s % d)
def unitsL (d:Nat):List Nat:=(List.range d).filter fun r=>Nat.gcd r d==1
def mulCh (D:Int):Bool:=
 let d:=D.natAbs
 let t:=table D
 let pos:=mask t 1
 let neg:=mask t (-1)
 let us:=unitsL d
 us.all fun r=>(Nat.testBit pos r != Nat.testBit neg r)&&us.all fun s=>mulAt d pos neg r s
def mulRow (i:Nat):Bool:=(List.range 20).all fun j=>let D:Int:=((20*i+j:Nat):Int) - 120;!fund D||mulCh D
theorem mul0:mulRow 0=true:=by decide +kernel
theorem mul1:mulRow 1=true:=by decide +kernel
theorem mul2:mulRow 2=true:=by decide +kernel
theorem mul3:mulRow 3=true:=by decide +kernel
theorem mul4:mulRow 4=true:=by decide +kernel
theorem mul5:mulRow 5=true:=by decide +kernel
theorem mul6:mulRow 6=true:=by decide +kernel
theorem mul7:mulRow 7=true:=by decide +kernel
theorem mul8:mulRow 8=true:=by decide +kernel
theorem mul9:mulRow 9=true:=by decide +kernel
theorem mul10:mulRow 10=true:=by decide +kernel
theorem mul11:mulRow 11=true:=by decide +kernel
theorem mul12:mulRow 12=true:=by decide +kernel
theorem mulRow_all:∀ i,i<13→mulRow i=true
 | 0,_=>mul0|1,_=>mul1|2,_=>mul2|3,_=>mul3|4,_=>mul4|5,_=>mul5|6,_=>mul6|7,_=>mul7|8,_=>mul8|9,_=>mul9|10,_=>mul10|11,_=>mul11|12,_=>mul12
 | n+13,h=>absurd h (by omega)
theorem mul_at {D:Int} (h0:-120≤D) (h1:D≤120) (hf:fund D=true):mulCh D=true:=by
 have h:=mulRow_all ((D+120).toNat / 20) (by omega)
 unfold mulRow at h
 rw[List.all_eq_true]at h
 have h2:=h ((D+120).toNat % 20) (List.mem_range.2 (Nat.mod_lt _ (by omega)))
 rw[Nat.div_add_mod]at h2
 have e:(((D+120).toNat:Nat):Int) - 120=D:=by omega
 simp only[e,hf]at h2
 simpa using h2
theorem mask_bit (v:Int):∀ (l:List Int) (i:Nat),Nat.testBit (mask l v) i=decide (l[i]?=some v)
 | [],i=>by simp[mask]
 | x :: l,0=>by
  show Nat.testBit (2*mask l v+if x=v then 1 else 0) 0=_
  rw[Nat.testBit_zero]
  by_cases h:x=v
  ·simp[h]
  ·simp[h]
 | x :: l,i+1=>by
  show Nat.testBit (2*mask l v+if x=v then 1 else 0) (i+1)=_
  rw[Nat.testBit_succ,show(2*mask l v+if x=v then 1 else 0) / 2=mask l v by split <;> omega,mask_bit v l i]
  simp
theorem kro_mul {N:Nat} {D:Int} {a b c:Nat} (hN:0<N) (h0:-120≤D) (h1:D≤120) (hf:fund D=true) (hd:(N:Int) % D=0) (ha:0<a) (ha':a≤128) (hb:0<b) (hb':b≤128) (hc:0<c) (hc':c≤128) (ga:Nat.gcd a N=1) (gb:Nat.gcd b N=1) (gc:Nat.gcd c N=1) (h:a*b % N=c % N):
  kroP D c=kroP D a*kroP D b∧(kroP D a=1∨kroP D a=-1):=by
 have hdvd:D.natAbs∣N:=by
  have:D∣(N:Int):=Int.dvd_of_emod_eq_zero hd
  exact Int.natAbs_dvd_natAbs.2 this
 have hdp:0<D.natAbs:=Nat.pos_of_dvd_of_pos hdvd hN
 have hcop:∀ {x:Nat},Nat.gcd x N=1→Nat.gcd x D.natAbs=1:=fun hx=>Nat.eq_one_of_dvd_one (hx▸Nat.gcd_dvd_gcd_of_dvd_right _ hdvd)
 have hchk:=chk_at h0 h1 hf
 have hmul:=mul_at h0 h1 hf
 unfold chk at hchk
 simp only[Bool.and_eq_true,List.all_eq_true]at hchk
 have hval:∀ x:Nat,0<x→x≤128→Nat.gcd x N=1→(table D)[x % D.natAbs]?=some (kroP D x):=by
  intro x hx hx' hg
  have e2:=hchk.2 x (List.mem_range.2 (by omega))
  simp only[hcop hg,Bool.or_eq_true,decide_eq_true_eq,bne_self_eq_false,Bool.false_eq_true,or_false,beq_iff_eq]at e2
  have hl:x % D.natAbs<(table D).length:=by unfold table;simpa using Nat.mod_lt x hdp
  rcases e2 with e2|e2
  ·omega
  ·rw[List.getD_eq_getElem?_getD,List.getElem?_eq_getElem hl]at e2
   rw[List.getElem?_eq_getElem hl,e2];rfl
 have hmem:∀ x:Nat,Nat.gcd x N=1→x % D.natAbs∈unitsL D.natAbs:=fun x hg=>by
  unfold unitsL
  rw[List.mem_filter,List.mem_range]
  refine⟨Nat.mod_lt _ hdp,?_⟩
  rw[beq_iff_eq,← Nat.gcd_rec,Nat.gcd_comm];exact hcop hg
 unfold mulCh at hmul
 simp only[List.all_eq_true,Bool.and_eq_true]at hmul
 have hab:a % D.natAbs*(b % D.natAbs) % D.natAbs=c % D.natAbs:=by
  rw[← Nat.mul_mod,← Nat.mod_mod_of_dvd (a*b) hdvd,h,Nat.mod_mod_of_dvd _ hdvd]
 have m1:=(hmul _ (hmem a ga)).2 _ (hmem b gb)
 have u1:=(hmul _ (hmem a ga)).1
 have u2:=(hmul _ (hmem b gb)).1
 unfold mulAt at m1
 rw[hab]at m1
 simp only[mask_bit,hval a ha ha' ga,hval b hb hb' gb,hval c hc hc' gc,Option.some.injEq]at m1 u1 u2
 have s1:kroP D a=1∨kroP D a=-1:=by
  by_cases e:kroP D a=1
  ·exact .inl e
  ·by_cases e2:kroP D a=-1
   ·exact .inr e2
   ·simp[e,e2]at u1
 have s2:kroP D b=1∨kroP D b=-1:=by
  by_cases e:kroP D b=1
  ·exact .inl e
  ·by_cases e2:kroP D b=-1
   ·exact .inr e2
   ·simp[e,e2]at u2
 refine⟨?_,s1⟩
 rcases s1 with s1|s1 <;> rcases s2 with s2|s2 <;>(rw[s1,s2]at m1;simp at m1;rw[s1,s2,m1];rfl)
end Pl
end Go.Proofs.YtenlbhlllgppmaaGreatDoor
