/- Contracts of sl2 and halfplaneref18: Lowest. -/
import Derived.Test.YthikonjlgljikaaGreatDoorS02
import Derived.Test.YthikonjlgljikaaGreatDoorS17
import Derived.Test.YthikonjlgljikaaGreatDoorS11
import Derived.Test.YthikonjlgljikaaGreatDoorS16
set_option maxRecDepth 100000
set_option maxHeartbeats 8000000
namespace Go.Proofs.YthikonjlgljikaaGreatDoor
open Go.RowKit
def low (p q:Int):Int×Int:=if q<0∨(q=0∧p<0)then(-(p.tdiv ((Int.gcd p q:Nat):Int)),-(q.tdiv ((Int.gcd p q:Nat):Int)))else(p.tdiv ((Int.gcd p q:Nat):Int),q.tdiv ((Int.gcd p q:Nat):Int))
def TV (B:Nat) (w0 w:World):List Addr→Prop
 | []=>Below B w0 w∧B≤w.heap.size
 | a :: m=>w.cell? a=some (cellOf w a)∧w.frozen? a=false∧TV B w0 w m
def TT (B:Nat) (w0 w:World) (l:List (Addr×Value)) (m:List Addr):Prop:=
 match l with
 | []=>TV B w0 w m
 |(a,v) :: l=>w.cell? a=some v∧TT B w0 w l m
theorem TV.next {B:Nat} {w0 w w':World} {m:List Addr} (hb:Below w.heap.size w w') (h:TV B w0 w m):TV B w0 w' m:=by
 induction m with
 | nil=>exact⟨h.1.trans (hb.mono h.2),Nat.le_trans h.2 hb.size⟩
 | cons a m ih=>
  obtain⟨h1,h2,h3⟩:=h
  have hl:=World.block_lt_of_cell? w a h1
  refine⟨cellOf_some (by rw[hb.cell hl];exact some_cellOf h1),frozen_keep hb (some_cellOf h1) h2,ih h3⟩
theorem TT.next {B:Nat} {w0 w w':World} {l:List (Addr×Value)} {m:List Addr} (hb:Below w.heap.size w w') (h:TT B w0 w l m):TT B w0 w' l m:=by
 induction l with
 | nil=>exact TV.next hb h
 | cons x l ih=>exact⟨(hb.cell (World.block_lt_of_cell? w x.1 h.1)).trans h.1,ih h.2⟩
theorem TV.below {B:Nat} {w0 w:World} {m:List Addr} (h:TV B w0 w m):Below B w0 w:=by
 induction m with
 | nil=>exact h.1
 | cons a m ih=>exact ih h.2.2
theorem TT.below {B:Nat} {w0 w:World} {l:List (Addr×Value)} {m:List Addr} (h:TT B w0 w l m):Below B w0 w:=by
 induction l with
 | nil=>exact TV.below h
 | cons x l ih=>exact ih h.2
theorem TV.put {B:Nat} {w0 w:World} {m:List Addr} (h:TV B w0 w m) (p:Addr) (v:Value) (hp:B≤p.block):TV B w0 (w.setCell p v) m:=by
 induction m with
 | nil=>exact⟨h.1.setCell hp v,by simpa using h.2⟩
 | cons a m ih=>exact⟨cellOf_some (cell_some_set (some_cellOf h.1)),frozen_set h.2.1,ih h.2.2⟩
theorem TT.put {B:Nat} {w0 w:World} {l:List (Addr×Value)} {m:List Addr} (h:TT B w0 w l m) (p:Addr) (v:Value) (hp:B≤p.block) (hl:∀ x∈l,p.block≠x.1.block):TT B w0 (w.setCell p v) l m:=by
 induction l with
 | nil=>exact TV.put h p v hp
 | cons x l ih=>
  refine⟨?_,ih h.2 (fun y hy=>hl y (List.mem_cons_of_mem _ hy))⟩
  rw[World.cell?_setCell_far w p x.1 v (hl x (List.mem_cons_self ..))]
  exact h.1
def NotU32 (v:Value):Prop:=∀ n,v≠.int .u32 n
theorem not_u32 (n:Int):¬ NotU32 (.int .u32 n):=fun h=>h _ rfl
theorem stk_put {K:Value→Prop} {w:World} {R:Nat} (h:Stk K w R) (p:Addr) (u:Value) (hu:K u):Stk K (w.setCell p u) R:=by
 refine⟨by simpa using h.1,fun i v hv=>?_⟩
 by_cases hp:p=⟨R,i,none⟩
 ·cases hc:w.cell? p with
  | none=>
   have:(w.setCell p u).cell? p=none:=setCell_none u hc
   rw[← hp,this]at hv;cases hv
  | some y=>
   rw[← hp,World.cell?_setCell_same' _ _ _ (by rw[hc];rfl)]at hv
   injection hv with hv
   rw[← hv];exact hu
 ·rw[World.cell?_setCell_other _ _ _ _ hp]at hv
  exact h.2 i v hv
theorem QRow.i32 {F:Nat→FP} (hF:∀ j,Solid (F j)) {w w':World} {g N k R:Nat} (h:QRow F w g N k) (h32:I32 w w') (hg:w.grownBy w' (some R)) (hne:g≠R):QRow F w' g N k:=by
 have hc:∀ j v,w.cell? ⟨g,j,none⟩=some v→w'.cell? ⟨g,j,none⟩=some v:=fun j v e=>hg.cell e (fun e2=>by injection e2 with e2;exact hne e2)
 have hbk:w'.heap[g]?=w.heap[g]?:=hg.block g h.sts.1 (fun e=>by injection e with e;exact hne e)
 refine⟨⟨Nat.lt_of_lt_of_le h.sts.1 hg.size,fun i v hv=>h.sts.2 i v ((World.cell?_of_block (a:=⟨g,i,none⟩) hbk).symm.trans hv)⟩,fun i hi=>(World.frozen?_of_block (a:=⟨g,i,none⟩) hbk).trans (h.free i hi),fun i hi=>?_,fun j hj=>?_⟩
 ·rw[World.cell?_of_block (a:=⟨g,i,none⟩) hbk];exact h.has i hi
 ·obtain⟨s,p,n,c,t,q,m,d,h0,h1,h2,h3,h4⟩:=h.val j hj
  exact⟨s,p,n,c,t,q,m,d,hc _ _ h0,hc _ _ h1,hc _ _ h2,hc _ _ h3,hF j _ _ _ _ _ _ _ _ _ _ h32 h4⟩
end Go.Proofs.YthikonjlgljikaaGreatDoor
namespace Go.Proofs.YthikonjlgljikaaGreatDoor
namespace Sie
theorem filter_split {α:Type} (l:List α) (f:α→Nat) (W:Nat) (hf:∀ x∈l,f x<W+1):l.length=(l.filter (fun x=>f x=W)).length+(l.filter (fun x=>f x<W)).length:=by
 induction l with
 | nil=>rfl
 | cons x l ih=>
  have h1:=ih (fun y hy=>hf y (List.mem_cons_of_mem _ hy))
  have h2:=hf x (List.mem_cons_self ..)
  by_cases h:f x=W
  ·have h3:¬ f x<W:=by omega
   simp only[List.filter_cons,h,decide_true,if_true,List.length_cons,Nat.lt_irrefl,decide_false,Bool.false_eq_true,if_false]
   omega
  ·have h3:f x<W:=by omega
   simp only[List.filter_cons,h,decide_false,Bool.false_eq_true,if_false,List.length_cons,h3,decide_true,if_true]
   omega
theorem box {α:Type} (W:Nat):∀ (l:List α) (f:α→Nat) (c:Nat),(∀ x∈l,f x<W)→W*c<l.length→∃ v,v<W∧c<(l.filter (fun x=>f x=v)).length:=by
 induction W with
 | zero=>
  intro l f c hf hl
  cases l with
  | nil=>simp at hl
  | cons x l=>exact absurd (hf x (List.mem_cons_self ..)) (Nat.not_lt_zero _)
 | succ W ih=>
  intro l f c hf hl
  have h1:=filter_split l f W hf
  by_cases h:c<(l.filter (fun x=>f x=W)).length
  ·exact⟨W,Nat.lt_succ_self _,h⟩
  ·have h2:W*c<(l.filter (fun x=>f x<W)).length:=by
    rw[Nat.succ_mul]at hl
    omega
   obtain⟨v,hv,hc⟩:=ih (l.filter (fun x=>f x<W)) f c (fun x hx=>by simpa using (List.mem_filter.1 hx).2) h2
   refine⟨v,by omega,Nat.lt_of_lt_of_le hc ?_⟩
   rw[List.filter_filter]
   exact Nat.le_of_eq (congrArg List.length (List.filter_congr fun x _=>by
    by_cases h:f x=v
    ·simp[h,hv]
    ·simp[h]))
theorem two (W:Nat) (n:Nat):∀ (l:List Nat) (s:Nat→Nat→Nat),l.Nodup→(∀ q,q<n→∀ x∈l,s q x<W)→W ^ n<l.length→∃ x y,x∈l∧y∈l∧x≠y∧∀ q,q<n→s q x=s q y:=by
 induction n with
 | zero=>
  intro l s hl hs hc
  rw[Nat.pow_zero]at hc
  match l,hl,hc with
  | x :: y :: l,hl,_=>
   refine⟨x,y,List.mem_cons_self ..,List.mem_cons_of_mem _ (List.mem_cons_self ..),?_,fun q hq=>absurd hq (Nat.not_lt_zero _)⟩
   intro h
   rw[List.nodup_cons]at hl
   exact hl.1 (h▸List.mem_cons_self ..)
 | succ n ih=>
  intro l s hl hs hc
  rw[Nat.pow_succ,Nat.mul_comm]at hc
  obtain⟨v,_,h2⟩:=box W l (s n) (W ^ n) (hs n (Nat.lt_succ_self _)) hc
  obtain⟨x,y,hx,hy,hne,he⟩:=ih (l.filter (fun x=>s n x=v)) s (hl.sublist List.filter_sublist) (fun q hq x hx=>hs q (by omega) x (List.mem_filter.1 hx).1) h2
  have ax:=List.mem_filter.1 hx
  have ay:=List.mem_filter.1 hy
  refine⟨x,y,ax.1,ay.1,hne,fun q hq=>?_⟩
  by_cases h:q=n
  ·subst h
   have b1:=ax.2
   have b2:=ay.2
   simp at b1 b2
   rw[b1,b2]
  ·exact he q (by omega)
theorem digits (r:Nat) (k:Nat):∀ x y:Nat,x<r ^ k→y<r ^ k→(∀ i,i<k→x / r ^ i % r=y / r ^ i % r)→x=y:=by
 induction k with
 | zero=>intro x y hx hy _;rw[Nat.pow_zero]at hx hy;omega
 | succ k ih=>
  intro x y hx hy h
  have h0:=h 0 (Nat.succ_pos _)
  rw[Nat.pow_zero,Nat.div_one,Nat.div_one]at h0
  rw[Nat.pow_succ]at hx hy
  have h1:x / r=y / r:=by
   refine ih (x / r) (y / r) (Nat.div_lt_of_lt_mul (by rw[Nat.mul_comm];exact hx)) (Nat.div_lt_of_lt_mul (by rw[Nat.mul_comm];exact hy)) (fun i hi=>?_)
   have h2:=h (i+1) (by omega)
   rw[Nat.pow_succ,Nat.mul_comm,← Nat.div_div_eq_div_mul,← Nat.div_div_eq_div_mul]at h2
   exact h2
  have e1:=Nat.div_add_mod x r
  have e2:=Nat.div_add_mod y r
  rw[h1]at e1
  rw[← e1,h0,e2]
def sum (f:Nat→Int):Nat→Int
 | 0=>0
 | n+1=>sum f n+f n
theorem sum_sub (f g:Nat→Int) (n:Nat):sum (fun i=>f i - g i) n=sum f n - sum g n:=by
 induction n with
 | zero=>rfl
 | succ n ih=>rw[sum,sum,sum,ih];omega
theorem sum_bound {f:Nat→Int} {n:Nat} {K:Int} (h:∀ i,i<n→-K≤f i∧f i≤K):-(n*K)≤sum f n∧sum f n≤n*K:=by
 induction n with
 | zero=>rw[sum];omega
 | succ n ih=>
  have h1:=ih (fun i hi=>h i (by omega))
  have h2:=h n (Nat.lt_succ_self _)
  have h3:((n+1:Nat):Int)*K=(n:Int)*K+K:=by rw[Int.natCast_add,Int.add_mul];omega
  rw[sum,h3]
  omega
theorem mul_bound {a x:Int} {B X:Nat} (ha:a.natAbs≤B) (h0:0≤x) (hx:x≤X):-((B:Int)*X)≤a*x∧a*x≤(B:Int)*X:=by
 have h1:(a*x).natAbs≤B*X:=by
  rw[Int.natAbs_mul]
  exact Nat.mul_le_mul ha (by omega)
 have h2:((B*X:Nat):Int)=(B:Int)*X:=by rw[Int.natCast_mul]
 omega
def cap (n B:Nat):Nat:=(2*(n+1)*B+1) ^ n
theorem room (n B:Nat):(2*(n+1)*B*cap n B+1) ^ n<(cap n B+1) ^ (n+1):=by
 have h0:0<cap n B:=Nat.pow_pos (Nat.succ_pos _)
 have h1:2*(n+1)*B*cap n B+1≤(2*(n+1)*B+1)*cap n B:=by
  rw[Nat.add_mul,Nat.one_mul]
  omega
 have h2:=Nat.pow_le_pow_left h1 n
 rw[Nat.mul_pow]at h2
 have h3:(2*(n+1)*B+1) ^ n=cap n B:=rfl
 rw[h3]at h2
 have h4:cap n B ^ n≤(cap n B+1) ^ n:=Nat.pow_le_pow_left (Nat.le_succ _) n
 have h5:0<(cap n B+1) ^ n:=Nat.pow_pos (Nat.succ_pos _)
 have h6:cap n B*cap n B ^ n≤cap n B*(cap n B+1) ^ n:=Nat.mul_le_mul_left _ h4
 have h7:(cap n B+1) ^ (n+1)=cap n B*(cap n B+1) ^ n+(cap n B+1) ^ n:=by rw[Nat.pow_succ,Nat.mul_comm,Nat.add_mul,Nat.one_mul]
 omega
theorem small (n B:Nat) (a:Nat→Nat→Int) (ha:∀ q i,q<n→i<n+1→(a q i).natAbs≤B):
  ∃ m:Nat→Int,(∃ i,i<n+1∧m i≠0)∧(∀ i,i<n+1→(m i).natAbs≤cap n B)∧∀ q,q<n→sum (fun i=>a q i*m i) (n+1)=0:=by
 obtain⟨X,hX⟩:∃ X,cap n B=X:=⟨_,rfl⟩
 have hroom:=room n B
 rw[hX]at hroom ⊢
 obtain⟨r,hr⟩:∃ r,X+1=r:=⟨_,rfl⟩
 rw[hr]at hroom
 obtain⟨d,hd⟩:∃ d:Nat→Nat→Int,d=fun x i=>((x / r ^ i % r:Nat):Int):=⟨_,rfl⟩
 have hd0:∀ x i,0≤d x i∧d x i≤(X:Int):=fun x i=>by
  have h1:x / r ^ i % r<r:=Nat.mod_lt _ (by omega)
  rw[hd]
  dsimp only
  omega
 have hb:∀ q x,q<n→-((n+1:Nat)*((B:Int)*X))≤sum (fun i=>a q i*d x i) (n+1)∧sum (fun i=>a q i*d x i) (n+1)≤(n+1:Nat)*((B:Int)*X):=fun q x hq=>
  sum_bound (fun i hi=>mul_bound (ha q i hq hi) (hd0 x i).1 (hd0 x i).2)
 obtain⟨T,hT⟩:∃ T:Nat,(n+1)*(B*X)=T:=⟨_,rfl⟩
 have hTi:((n+1:Nat):Int)*((B:Int)*X)=(T:Int):=by rw[← hT,Int.natCast_mul,Int.natCast_mul]
 have hW:2*(n+1)*B*X+1=2*T+1:=by rw[← hT,Nat.mul_assoc 2,Nat.mul_assoc 2,Nat.mul_assoc (n+1)]
 rw[hW]at hroom
 obtain⟨x,y,hx,hy,hne,he⟩:=two (2*T+1) n (List.range (r ^ (n+1))) (fun q x=>(sum (fun i=>a q i*d x i) (n+1)+T).toNat) List.nodup_range (fun q hq x _=>by
  have h1:=hb q x hq
  rw[hTi]at h1
  omega) (by rw[List.length_range];exact hroom)
 rw[List.mem_range]at hx hy
 refine⟨fun i=>d x i - d y i,?_,fun i hi=>?_,fun q hq=>?_⟩
 ·refine Classical.byContradiction fun hno=>hne (digits r (n+1) x y hx hy fun i hi=>?_)
  have h1:d x i - d y i=0:=Classical.byContradiction fun h=>hno ⟨i,hi,h⟩
  rw[hd]at h1
  dsimp only at h1
  omega
 ·have h1:=hd0 x i
  have h2:=hd0 y i
  show(d x i - d y i).natAbs≤X
  omega
 ·have h1:=he q hq
  have h2:=hb q x hq
  have h3:=hb q y hq
  rw[hTi]at h2 h3
  have h4:(fun i=>a q i*(d x i - d y i))=fun i=>a q i*d x i - a q i*d y i:=by funext i;rw[Int.mul_sub]
  rw[h4,sum_sub]
  omega
end Sie
namespace Eli
open Sie
theorem sumQ_congr {f g:Nat→Rat} {n:Nat} (h:∀ i,i<n→f i=g i):sumQ f n=sumQ g n:=by
 induction n with
 | zero=>rfl
 | succ n ih=>rw[sumQ,sumQ,ih (fun i hi=>h i (by omega)),h n (Nat.lt_succ_self _)]
theorem sumQ_add (f g:Nat→Rat) (n:Nat):sumQ (fun i=>f i+g i) n=sumQ f n+sumQ g n:=by
 induction n with
 | zero=>rw[sumQ,sumQ,sumQ];grind
 | succ n ih=>rw[sumQ,sumQ,sumQ,ih];grind
theorem sumQ_mul (c:Rat) (f:Nat→Rat) (n:Nat):sumQ (fun i=>c*f i) n=c*sumQ f n:=by
 induction n with
 | zero=>rw[sumQ,sumQ];grind
 | succ n ih=>rw[sumQ,sumQ,ih];grind
theorem sumQ_zero {f:Nat→Rat} {n:Nat} (h:∀ i,i<n→f i=0):sumQ f n=0:=by
 induction n with
 | zero=>rfl
 | succ n ih=>rw[sumQ,ih (fun i hi=>h i (by omega)),h n (Nat.lt_succ_self _)];grind
theorem sumQ_single {f:Nat→Rat} {n j:Nat} (hj:j<n) (h:∀ i,i<n→i≠j→f i=0):sumQ f n=f j:=by
 induction n with
 | zero=>omega
 | succ n ih=>
  rw[sumQ]
  by_cases e:j=n
  ·subst e
   rw[sumQ_zero (fun i hi=>h i (by omega) (by omega))];grind
  ·rw[ih (by omega) (fun i hi=>h i (by omega)),h n (by omega) (by omega)];grind
theorem sumQ_tail {f:Nat→Rat} {t n:Nat} (ht:t≤n) (h:∀ i,t≤i→i<n→f i=0):sumQ f n=sumQ f t:=by
 induction n with
 | zero=>obtain rfl:t=0:=by omega
         rfl
 | succ n ih=>
  by_cases e:t=n+1
  ·rw[e]
  ·rw[sumQ,ih (by omega) (fun i h1 h2=>h i h1 (by omega)),h n (by omega) (by omega)];grind
theorem sum_cast (f:Nat→Int) (n:Nat):((sum f n:Int):Rat)=sumQ (fun i=>(f i:Rat)) n:=by
 induction n with
 | zero=>rfl
 | succ n ih=>rw[sum,sumQ,← ih,Rat.intCast_add]
def Sp (ld:Nat→Bool) (L:Nat→Nat→Rat) (t:Nat) (u:Nat→Rat):Prop:=
 ∃ z:Nat→Rat,(∀ j,j<t→ld j=false→z j=0)∧∀ q,u q=sumQ (fun j=>z j*L j q) t
theorem Sp.nil (ld:Nat→Bool) (L:Nat→Nat→Rat) (t:Nat):Sp ld L t (fun _=>0):=
 ⟨fun _=>0,fun _ _ _=>rfl,fun q=>(sumQ_zero (fun i _=>by grind)).symm⟩
theorem Sp.combine {ld:Nat→Bool} {L:Nat→Nat→Rat} {t:Nat} {u v:Nat→Rat} (hu:Sp ld L t u) (c:Rat) (hv:Sp ld L t v):Sp ld L t (fun q=>u q+c*v q):=by
 obtain⟨y,hy,ey⟩:=hu
 obtain⟨z,hz,ez⟩:=hv
 refine⟨fun j=>y j+c*z j,fun j hj hl=>by simp only[hy j hj hl,hz j hj hl];grind,fun q=>?_⟩
 dsimp only
 rw[ey,ez,← sumQ_mul,← sumQ_add]
 exact sumQ_congr fun i _=>by grind
theorem Sp.mono {ld:Nat→Bool} {L:Nat→Nat→Rat} {t t':Nat} {u:Nat→Rat} (hu:Sp ld L t u) (h:t≤t'):Sp ld L t' u:=by
 obtain⟨y,hy,ey⟩:=hu
 refine⟨fun j=>if j<t then y j else 0,fun j hj hl=>?_,fun q=>?_⟩
 ·by_cases e:j<t
  ·simp only[if_pos e,hy j e hl]
  ·simp only[if_neg e]
 ·rw[ey,sumQ_tail h (fun i h1 _=>by simp only[if_neg (Nat.not_lt.2 h1)];grind)]
  exact sumQ_congr fun i hi=>by simp only[if_pos hi]
theorem Sp.lead {ld:Nat→Bool} {L:Nat→Nat→Rat} {t j:Nat} (hj:j<t) (hl:ld j=true):Sp ld L t (L j):=by
 refine⟨fun i=>if i=j then 1 else 0,fun i hi hn=>?_,fun q=>?_⟩
 ·have:i≠j:=fun e=>by rw[e,hl]at hn;cases hn
  simp only[if_neg this]
 ·rw[sumQ_single hj (fun i _ hne=>by simp only[if_neg hne];grind)]
  simp
theorem Sp.congr {ld:Nat→Bool} {L:Nat→Nat→Rat} {t:Nat} {u v:Nat→Rat} (hu:Sp ld L t u) (h:∀ q,v q=u q):Sp ld L t v:=by
 obtain⟨y,hy,ey⟩:=hu
 exact⟨y,hy,fun q=>by rw[h,ey]⟩
structure Inv (B:Nat) (ld:Nat→Bool) (L:Nat→Nat→Rat) (R:Nat→Nat→Int):Prop where
 low:∀ j q,q<j→L j q=0
 one:∀ j,L j j=1
 free:∀ j,ld j=false→∀ q,L j q=if q=j then 1 else 0
 rfree:∀ j,ld j=false→∀ q,R j q=if q=j then 1 else 0
 got:∀ p,ld p=true→∃ s:Rat,s≠0∧∃ u,Sp ld L p u∧∀ q,(R p q:Rat)=s*L p q+u q
 bound:∀ p q,(R p q).natAbs≤B
variable {B:Nat} {ld:Nat→Bool} {L:Nat→Nat→Rat} {R:Nat→Nat→Int}
theorem Inv.tri (h:Inv B ld L R) {z:Nat→Rat} {t:Nat} (hz:∀ q,q<t→sumQ (fun j=>z j*L j q) t=0):∀ j,j<t→z j=0:=by
 intro j
 induction j using Nat.strongRecOn with
 | ind j ih=>
  intro hj
  have h1:=hz j hj
  rw[sumQ_single hj (fun i hi hne=>?_),h.one]at h1
  ·grind
  ·rcases Nat.lt_or_ge i j with hlt|hge
   ·rw[ih i hlt hi];grind
   ·rw[h.low i j (by omega)];grind
theorem Inv.row (h:Inv B ld L R) (p:Nat):∃ s:Rat,s≠0∧∃ u,Sp ld L p u∧∀ q,(R p q:Rat)=s*L p q+u q:=by
 cases hl:ld p with
 | true=>exact h.got p hl
 | false=>
  refine⟨1,by grind,fun _=>0,Sp.nil _ _ _,fun q=>?_⟩
  rw[h.rfree p hl,h.free p hl]
  by_cases e:q=p
  ·simp only[if_pos e];grind
  ·simp only[if_neg e];grind
theorem Inv.comb (h:Inv B ld L R) (m:Nat→Rat) (t:Nat):∃ z:Nat→Rat,∀ q,sumQ (fun p=>m p*(R p q:Rat)) t=sumQ (fun j=>z j*L j q) t:=by
 induction t with
 | zero=>exact⟨fun _=>0,fun q=>rfl⟩
 | succ t ih=>
  obtain⟨z,hz⟩:=ih
  obtain⟨s,_,u,⟨y,_,ey⟩,hr⟩:=h.row t
  refine⟨fun j=>if j=t then m t*s else z j+m t*y j,fun q=>?_⟩
  dsimp only
  rw[sumQ,sumQ,hz,hr,ey,if_pos rfl]
  have e1:sumQ (fun j=>(if j=t then m t*s else z j+m t*y j)*L j q) t=sumQ (fun j=>z j*L j q) t+m t*sumQ (fun j=>y j*L j q) t:=by
   rw[← sumQ_mul,← sumQ_add]
   exact sumQ_congr fun i hi=>by rw[if_neg (by omega)];grind
  rw[e1]
  grind
theorem Inv.nonsing (h:Inv B ld L R):∀ (t:Nat) (m:Nat→Rat),(∀ q,q<t→sumQ (fun p=>m p*(R p q:Rat)) t=0)→∀ p,p<t→m p=0:=by
 intro t
 induction t with
 | zero=>intro m _ p hp;omega
 | succ t ih=>
  intro m hm
  obtain⟨z,hz⟩:=h.comb m t
  obtain⟨s,hs,u,⟨y,_,ey⟩,hr⟩:=h.row t
  have h1:∀ q,q<t+1→sumQ (fun j=>(if j=t then m t*s else z j+m t*y j)*L j q) (t+1)=0:=fun q hq=>by
   have h2:=hm q hq
   rw[sumQ,hz,hr,ey]at h2
   rw[sumQ,if_pos rfl]
   have e1:sumQ (fun j=>(if j=t then m t*s else z j+m t*y j)*L j q) t=sumQ (fun j=>z j*L j q) t+m t*sumQ (fun j=>y j*L j q) t:=by
    rw[← sumQ_mul,← sumQ_add]
    exact sumQ_congr fun i hi=>by rw[if_neg (by omega)];grind
   rw[e1]
   grind
  have h3:=h.tri h1 t (Nat.lt_succ_self _)
  rw[if_pos rfl]at h3
  have h4:m t=0:=by
   rcases Rat.mul_eq_zero.1 h3 with h5|h5
   ·exact h5
   ·exact absurd h5 hs
  intro p hp
  by_cases e:p=t
  ·rw[e];exact h4
  ·refine ih m (fun q hq=>?_) p (by omega)
   have h2:=hm q (by omega)
   rw[sumQ,h4]at h2
   grind
theorem Inv.small (h:Inv B ld L R) (v:Nat→Int) (hv:∀ q,(v q).natAbs≤B) (t:Nat):
  ∃ (m:Int) (k:Nat→Int) (N:Nat→Int),m≠0∧m.natAbs≤cap t B∧(∀ p,p<t→(k p).natAbs≤cap t B)∧(∀ q,(N q).natAbs≤(t+1)*(B*cap t B)) ∧
   (∀ q,q<t→N q=0)∧∀ q,(N q:Rat)=sumQ (fun p=>(k p:Rat)*(R p q:Rat)) t+(m:Rat)*(v q:Rat):=by
 obtain⟨x,⟨i0,hi0,hne⟩,hx,he⟩:=Sie.small t B (fun q i=>if i<t then R i q else v q) (fun q i _ _=>by
  split
  ·exact h.bound i q
  ·exact hv q)
 have hN:∀ q,((sum (fun i=>(if i<t then R i q else v q)*x i) (t+1):Int):Rat)=sumQ (fun p=>(x p:Rat)*(R p q:Rat)) t+(x t:Rat)*(v q:Rat):=fun q=>by
  rw[sum_cast,sumQ,if_neg (Nat.lt_irrefl t),Rat.intCast_mul]
  have e1:sumQ (fun i=>(((if i<t then R i q else v q)*x i:Int):Rat)) t=sumQ (fun p=>(x p:Rat)*(R p q:Rat)) t:=
   sumQ_congr fun i hi=>by rw[if_pos hi,Rat.intCast_mul];grind
  rw[e1]
  grind
 refine⟨x t,x,fun q=>sum (fun i=>(if i<t then R i q else v q)*x i) (t+1),?_,hx t (Nat.lt_succ_self _),fun p hp=>hx p (by omega),fun q=>?_,fun q hq=>he q hq,hN⟩
 ·intro h0
  have h1:∀ q,q<t→sumQ (fun p=>(x p:Rat)*(R p q:Rat)) t=0:=fun q hq=>by
   have h2:=hN q
   rw[he q hq,h0]at h2
   have h3:((0:Int):Rat)=0:=rfl
   rw[h3]at h2
   grind
  have h2:=h.nonsing t (fun p=>(x p:Rat)) h1
  by_cases e:i0=t
  ·rw[e]at hne;exact hne h0
  ·have h3:=h2 i0 (by omega)
   exact hne (by exact_mod_cast h3)
 ·have h1:∀ i,i<t+1→-((B*cap t B:Nat):Int)≤(if i<t then R i q else v q)*x i∧(if i<t then R i q else v q)*x i≤((B*cap t B:Nat):Int):=fun i hi=>by
   have h2:((if i<t then R i q else v q)*x i).natAbs≤B*cap t B:=by
    rw[Int.natAbs_mul]
    refine Nat.mul_le_mul ?_ (hx i hi)
    split
    ·exact h.bound i q
    ·exact hv q
   omega
  have h3:=sum_bound h1
  have h4:((t+1:Nat):Int)*((B*cap t B:Nat):Int)=(((t+1)*(B*cap t B):Nat):Int):=by rw[← Int.natCast_mul]
  rw[h4]at h3
  show(sum (fun i=>(if i<t then R i q else v q)*x i) (t+1)).natAbs≤(t+1)*(B*cap t B)
  omega
theorem Inv.height (h:Inv B ld L R) (v:Nat→Int) (hv:∀ q,(v q).natAbs≤B) (r:Nat→Rat) (t:Nat) (u:Nat→Rat) (hu:Sp ld L t u) (he:∀ q,(v q:Rat)=r q+u q) (h0:∀ q,q<t→r q=0):
  ∃ (m:Int) (N:Nat→Int),m≠0∧m.natAbs≤cap t B∧(∀ q,(N q).natAbs≤(t+1)*(B*cap t B))∧∀ q,(m:Rat)*r q=(N q:Rat):=by
 obtain⟨m,k,N,hm,hmc,_,hNc,hN0,hN⟩:=h.small v hv t
 refine⟨m,N,hm,hmc,hNc,?_⟩
 obtain⟨z,hz⟩:=h.comb (fun p=>(k p:Rat)) t
 obtain⟨y,_,ey⟩:=hu
 have e1:∀ q,(N q:Rat) - (m:Rat)*r q=sumQ (fun j=>(z j+(m:Rat)*y j)*L j q) t:=fun q=>by
  have e2:sumQ (fun j=>(z j+(m:Rat)*y j)*L j q) t=sumQ (fun j=>z j*L j q) t+(m:Rat)*sumQ (fun j=>y j*L j q) t:=by
   rw[← sumQ_mul,← sumQ_add]
   exact sumQ_congr fun i hi=>by grind
  rw[e2,hN,hz,he,ey]
  grind
 have h1:=h.tri (fun q hq=>by
  rw[← e1,h0 q hq,hN0 q hq]
  have:((0:Int):Rat)=0:=rfl
  rw[this]
  grind)
 intro q
 have h2:=e1 q
 rw[sumQ_zero (fun i hi=>by rw[h1 i hi];grind)]at h2
 grind
theorem Inv.coords (h:Inv B ld L R) (v:Nat→Int) (hv:∀ q,(v q).natAbs≤B) (n:Nat) (x:Nat→Rat) (u:Nat→Rat) (hu:Sp ld L n u)
  (he:∀ q,(v q:Rat)=sumQ (fun f=>(if ld f then 0 else x f)*L f q) n+u q):
  ∃ (m:Int) (N:Nat→Int),m≠0∧m.natAbs≤cap n B∧(∀ f,f<n→(N f).natAbs≤cap n B)∧∀ f,f<n→ld f=false→(m:Rat)*x f=(N f:Rat):=by
 obtain⟨m,k,N,hm,hmc,hkc,_,hN0,hN⟩:=h.small v hv n
 refine⟨m,fun f=>-k f,hm,hmc,fun f hf=>by have:=hkc f hf;show(-k f).natAbs≤_;omega,?_⟩
 obtain⟨y,hy,ey⟩:=hu
 have hc:∀ t,t≤n→∃ z:Nat→Rat,(∀ f,f<t→ld f=false→z f=(k f:Rat))∧∀ q,sumQ (fun p=>(k p:Rat)*(R p q:Rat)) t=sumQ (fun j=>z j*L j q) t:=by
  intro t
  induction t with
  | zero=>intro _;exact⟨fun _=>0,fun f hf=>absurd hf (Nat.not_lt_zero _),fun q=>rfl⟩
  | succ t ih=>
   intro ht
   obtain⟨z,hz,ez⟩:=ih (by omega)
   cases hl:ld t with
   | false=>
    refine⟨fun j=>if j=t then(k t:Rat)else z j,fun f hf hfl=>?_,fun q=>?_⟩
    ·by_cases e:f=t
     ·simp only[e,if_true]
     ·simp only[if_neg e];exact hz f (by omega) hfl
    ·dsimp only
     rw[sumQ,sumQ,ez,if_pos rfl,h.free t hl,h.rfree t hl]
     have e1:sumQ (fun j=>(if j=t then(k t:Rat)else z j)*L j q) t=sumQ (fun j=>z j*L j q) t:=sumQ_congr fun i hi=>by rw[if_neg (by omega)]
     rw[e1]
     by_cases e:q=t
     ·simp only[if_pos e];grind
     ·simp only[if_neg e];grind
   | true=>
    obtain⟨s,_,u',⟨y',hy',ey'⟩,hr⟩:=h.got t hl
    refine⟨fun j=>if j=t then(k t:Rat)*s else z j+(k t:Rat)*y' j,fun f hf hfl=>?_,fun q=>?_⟩
    ·have hne:f≠t:=fun e=>by rw[e,hl]at hfl;cases hfl
     simp only[if_neg hne]
     rw[hz f (by omega) hfl,hy' f (by omega) hfl]
     grind
    ·dsimp only
     rw[sumQ,sumQ,ez,hr,ey',if_pos rfl]
     have e1:sumQ (fun j=>(if j=t then(k t:Rat)*s else z j+(k t:Rat)*y' j)*L j q) t=sumQ (fun j=>z j*L j q) t+(k t:Rat)*sumQ (fun j=>y' j*L j q) t:=by
      rw[← sumQ_mul,← sumQ_add]
      exact sumQ_congr fun i hi=>by rw[if_neg (by omega)];grind
     rw[e1]
     grind
 obtain⟨z,hz,ez⟩:=hc n (Nat.le_refl _)
 have h1:=h.tri (t:=n) (z:=fun j=>z j+(m:Rat)*((if ld j then 0 else x j)+y j)) (fun q hq=>by
  have e2:sumQ (fun j=>(z j+(m:Rat)*((if ld j then 0 else x j)+y j))*L j q) n=sumQ (fun j=>z j*L j q) n+(m:Rat)*(sumQ (fun f=>(if ld f then 0 else x f)*L f q) n+sumQ (fun j=>y j*L j q) n):=by
   rw[← sumQ_add,← sumQ_mul,← sumQ_add]
   exact sumQ_congr fun i hi=>by grind
  have e3:=hN q
  rw[hN0 q hq,he,ey,ez]at e3
  have:((0:Int):Rat)=0:=rfl
  rw[this]at e3
  rw[e2]
  exact e3.symm)
 intro f hf hl
 have h2:=h1 f hf
 rw[hz f hf hl,hy f hf hl,hl]at h2
 simp only[Bool.false_eq_true,if_false]at h2
 rw[Rat.intCast_neg]
 grind
end Eli
end Go.Proofs.YthikonjlgljikaaGreatDoor
