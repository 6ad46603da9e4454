/- Small solutions of linear equations, by counting: n equations in n + 1 unknowns with small integer coefficients have a small solution other than 0. No program in sight. -/
import Derived.Test.YtenlbhlllgppmaaGreatDoorK19
import Derived.Test.YtenlbhlllgppmaaGreatDoorK21
import Derived.Test.YtenlbhlllgppmaaGreatDoorK13
namespace Go.Proofs.YtenlbhlllgppmaaGreatDoor
namespace Sie
theorem filter_split {α:Type} (l:List α) (f:α→Nat) (W:Nat) (hf:∀ x∈l,f x<W+1):l.length=(l.filter (fun x=>f x=W)).length+(l.filter (fun x=>f x<W)).length:=by
 induction l with
 | nil=>rfl
 | cons x l ih=>
  have h1:=ih (fun y hy=>hf y (List.mem_cons_of_mem _ hy))
  have h2:=hf x (List.mem_cons_self ..)
  by_cases h:f x=W
  ·have h3:¬ f x<W:=by omega
   simp only[List.filter_cons,h,decide_true,if_true,List.length_cons,Nat.lt_irrefl,decide_false,Bool.false_eq_true,if_false]
   omega
  ·have h3:f x<W:=by omega
   simp only[List.filter_cons,h,decide_false,Bool.false_eq_true,if_false,List.length_cons,h3,decide_true,if_true]
   omega
theorem box {α:Type} (W:Nat):∀ (l:List α) (f:α→Nat) (c:Nat),(∀ x∈l,f x<W)→W*c<l.length→∃ v,v<W∧c<(l.filter (fun x=>f x=v)).length:=by
 induction W with
 | zero=>
  intro l f c hf hl
  cases l with
  | nil=>simp at hl
  | cons x l=>exact absurd (hf x (List.mem_cons_self ..)) (Nat.not_lt_zero _)
 | succ W ih=>
  intro l f c hf hl
  have h1:=filter_split l f W hf
  by_cases h:c<(l.filter (fun x=>f x=W)).length
  ·exact⟨W,Nat.lt_succ_self _,h⟩
  ·have h2:W*c<(l.filter (fun x=>f x<W)).length:=by
    rw[Nat.succ_mul]at hl
    omega
   obtain⟨v,hv,hc⟩:=ih (l.filter (fun x=>f x<W)) f c (fun x hx=>by simpa using (List.mem_filter.1 hx).2) h2
   refine⟨v,by omega,Nat.lt_of_lt_of_le hc ?_⟩
   rw[List.filter_filter]
   exact Nat.le_of_eq (congrArg List.length (List.filter_congr fun x _=>by
    by_cases h:f x=v
    ·simp[h,hv]
    ·simp[h]))
theorem two (W:Nat) (n:Nat):∀ (l:List Nat) (s:Nat→Nat→Nat),l.Nodup→(∀ q,q<n→∀ x∈l,s q x<W)→W ^ n<l.length→∃ x y,x∈l∧y∈l∧x≠y∧∀ q,q<n→s q x=s q y:=by
 induction n with
 | zero=>
  intro l s hl hs hc
  rw[Nat.pow_zero]at hc
  match l,hl,hc with
  | x :: y :: l,hl,_=>
   refine⟨x,y,List.mem_cons_self ..,List.mem_cons_of_mem _ (List.mem_cons_self ..),?_,fun q hq=>absurd hq (Nat.not_lt_zero _)⟩
   intro h
   rw[List.nodup_cons]at hl
   exact hl.1 (h▸List.mem_cons_self ..)
 | succ n ih=>
  intro l s hl hs hc
  rw[Nat.pow_succ,Nat.mul_comm]at hc
  obtain⟨v,_,h2⟩:=box W l (s n) (W ^ n) (hs n (Nat.lt_succ_self _)) hc
  obtain⟨x,y,hx,hy,hne,he⟩:=ih (l.filter (fun x=>s n x=v)) s (hl.sublist List.filter_sublist) (fun q hq x hx=>hs q (by omega) x (List.mem_filter.1 hx).1) h2
  have ax:=List.mem_filter.1 hx
  have ay:=List.mem_filter.1 hy
  refine⟨x,y,ax.1,ay.1,hne,fun q hq=>?_⟩
  by_cases h:q=n
  ·subst h
   have b1:=ax.2
   have b2:=ay.2
   simp at b1 b2
   rw[b1,b2]
  ·exact he q (by omega)
theorem digits (r:Nat) (k:Nat):∀ x y:Nat,x<r ^ k→y<r ^ k→(∀ i,i<k→x / r ^ i % r=y / r ^ i % r)→x=y:=by
 induction k with
 | zero=>intro x y hx hy _;rw[Nat.pow_zero]at hx hy;omega
 | succ k ih=>
  intro x y hx hy h
  have h0:=h 0 (Nat.succ_pos _)
  rw[Nat.pow_zero,Nat.div_one,Nat.div_one]at h0
  rw[Nat.pow_succ]at hx hy
  have h1:x / r=y / r:=by
   refine ih (x / r) (y / r) (Nat.div_lt_of_lt_mul (by rw[Nat.mul_comm];exact hx)) (Nat.div_lt_of_lt_mul (by rw[Nat.mul_comm];exact hy)) (fun i hi=>?_)
   have h2:=h (i+1) (by omega)
   rw[Nat.pow_succ,Nat.mul_comm,← Nat.div_div_eq_div_mul,← Nat.div_div_eq_div_mul]at h2
   exact h2
  have e1:=Nat.div_add_mod x r
  have e2:=Nat.div_add_mod y r
  rw[h1]at e1
  rw[← e1,h0,e2]
def sum (f:Nat→Int):Nat→Int
 | 0=>0
 | n+1=>sum f n+f n
theorem sum_sub (f g:Nat→Int) (n:Nat):sum (fun i=>f i - g i) n=sum f n - sum g n:=by
 induction n with
 | zero=>rfl
 | succ n ih=>rw[sum,sum,sum,ih];omega
theorem sum_bound {f:Nat→Int} {n:Nat} {K:Int} (h:∀ i,i<n→-K≤f i∧f i≤K):-(n*K)≤sum f n∧sum f n≤n*K:=by
 induction n with
 | zero=>rw[sum];omega
 | succ n ih=>
  have h1:=ih (fun i hi=>h i (by omega))
  have h2:=h n (Nat.lt_succ_self _)
  have h3:((n+1:Nat):Int)*K=(n:Int)*K+K:=by rw[Int.natCast_add,Int.add_mul];omega
  rw[sum,h3]
  omega
theorem mul_bound {a x:Int} {B X:Nat} (ha:a.natAbs≤B) (h0:0≤x) (hx:x≤X):-((B:Int)*X)≤a*x∧a*x≤(B:Int)*X:=by
 have h1:(a*x).natAbs≤B*X:=by
  rw[Int.natAbs_mul]
  exact Nat.mul_le_mul ha (by omega)
 have h2:((B*X:Nat):Int)=(B:Int)*X:=by rw[Int.natCast_mul]
 omega
def cap (n B:Nat):Nat:=(2*(n+1)*B+1) ^ n
theorem room (n B:Nat):(2*(n+1)*B*cap n B+1) ^ n<(cap n B+1) ^ (n+1):=by
 have h0:0<cap n B:=Nat.pow_pos (Nat.succ_pos _)
 have h1:2*(n+1)*B*cap n B+1≤(2*(n+1)*B+1)*cap n B:=by
  rw[Nat.add_mul,Nat.one_mul]
  omega
 have h2:=Nat.pow_le_pow_left h1 n
 rw[Nat.mul_pow]at h2
 have h3:(2*(n+1)*B+1) ^ n=cap n B:=rfl
 rw[h3]at h2
 have h4:cap n B ^ n≤(cap n B+1) ^ n:=Nat.pow_le_pow_left (Nat.le_succ _) n
 have h5:0<(cap n B+1) ^ n:=Nat.pow_pos (Nat.succ_pos _)
 have h6:cap n B*cap n B ^ n≤cap n B*(cap n B+1) ^ n:=Nat.mul_le_mul_left _ h4
 have h7:(cap n B+1) ^ (n+1)=cap n B*(cap n B+1) ^ n+(cap n B+1) ^ n:=by rw[Nat.pow_succ,Nat.mul_comm,Nat.add_mul,Nat.one_mul]
 omega
theorem small (n B:Nat) (a:Nat→Nat→Int) (ha:∀ q i,q<n→i<n+1→(a q i).natAbs≤B):
  ∃ m:Nat→Int,(∃ i,i<n+1∧m i≠0)∧(∀ i,i<n+1→(m i).natAbs≤cap n B)∧∀ q,q<n→sum (fun i=>a q i*m i) (n+1)=0:=by
 obtain⟨X,hX⟩:∃ X,cap n B=X:=⟨_,rfl⟩
 have hroom:=room n B
 rw[hX]at hroom ⊢
 obtain⟨r,hr⟩:∃ r,X+1=r:=⟨_,rfl⟩
 rw[hr]at hroom
 obtain⟨d,hd⟩:∃ d:Nat→Nat→Int,d=fun x i=>((x / r ^ i % r:Nat):Int):=⟨_,rfl⟩
 have hd0:∀ x i,0≤d x i∧d x i≤(X:Int):=fun x i=>by
  have h1:x / r ^ i % r<r:=Nat.mod_lt _ (by omega)
  rw[hd]
  dsimp only
  omega
 have hb:∀ q x,q<n→-((n+1:Nat)*((B:Int)*X))≤sum (fun i=>a q i*d x i) (n+1)∧sum (fun i=>a q i*d x i) (n+1)≤(n+1:Nat)*((B:Int)*X):=fun q x hq=>
  sum_bound (fun i hi=>mul_bound (ha q i hq hi) (hd0 x i).1 (hd0 x i).2)
 obtain⟨T,hT⟩:∃ T:Nat,(n+1)*(B*X)=T:=⟨_,rfl⟩
 have hTi:((n+1:Nat):Int)*((B:Int)*X)=(T:Int):=by rw[← hT,Int.natCast_mul,Int.natCast_mul]
 have hW:2*(n+1)*B*X+1=2*T+1:=by rw[← hT,Nat.mul_assoc 2,Nat.mul_assoc 2,Nat.mul_assoc (n+1)]
 rw[hW]at hroom
 obtain⟨x,y,hx,hy,hne,he⟩:=two (2*T+1) n (List.range (r ^ (n+1))) (fun q x=>(sum (fun i=>a q i*d x i) (n+1)+T).toNat) List.nodup_range (fun q hq x _=>by
  have h1:=hb q x hq
  rw[hTi]at h1
  omega) (by rw[List.length_range];exact hroom)
 rw[List.mem_range]at hx hy
 refine⟨fun i=>d x i - d y i,?_,fun i hi=>?_,fun q hq=>?_⟩
 ·refine Classical.byContradiction fun hno=>hne (digits r (n+1) x y hx hy fun i hi=>?_)
  have h1:d x i - d y i=0:=Classical.byContradiction fun h=>hno ⟨i,hi,h⟩
  rw[hd]at h1
  dsimp only at h1
  omega
 ·have h1:=hd0 x i
  have h2:=hd0 y i
  show(d x i - d y i).natAbs≤X
  omega
 ·have h1:=he q hq
  have h2:=hb q x hq
  have h3:=hb q y hq
  rw[hTi]at h2 h3
  have h4:(fun i=>a q i*(d x i - d y i))=fun i=>a q i*d x i - a q i*d y i:=by funext i;rw[Int.mul_sub]
  rw[h4,sum_sub]
  omega
end Sie
namespace Eli
open Sie
theorem sumQ_congr {f g:Nat→Rat} {n:Nat} (h:∀ i,i<n→f i=g i):sumQ f n=sumQ g n:=by
 induction n with
 | zero=>rfl
 | succ n ih=>rw[sumQ,sumQ,ih (fun i hi=>h i (by omega)),h n (Nat.lt_succ_self _)]
theorem sumQ_add (f g:Nat→Rat) (n:Nat):sumQ (fun i=>f i+g i) n=sumQ f n+sumQ g n:=by
 induction n with
 | zero=>rw[sumQ,sumQ,sumQ];grind
 | succ n ih=>rw[sumQ,sumQ,sumQ,ih];grind
theorem sumQ_mul (c:Rat) (f:Nat→Rat) (n:Nat):sumQ (fun i=>c*f i) n=c*sumQ f n:=by
 induction n with
 | zero=>rw[sumQ,sumQ];grind
 | succ n ih=>rw[sumQ,sumQ,ih];grind
theorem sumQ_zero {f:Nat→Rat} {n:Nat} (h:∀ i,i<n→f i=0):sumQ f n=0:=by
 induction n with
 | zero=>rfl
 | succ n ih=>rw[sumQ,ih (fun i hi=>h i (by omega)),h n (Nat.lt_succ_self _)];grind
theorem sumQ_single {f:Nat→Rat} {n j:Nat} (hj:j<n) (h:∀ i,i<n→i≠j→f i=0):sumQ f n=f j:=by
 induction n with
 | zero=>omega
 | succ n ih=>
  rw[sumQ]
  by_cases e:j=n
  ·subst e
   rw[sumQ_zero (fun i hi=>h i (by omega) (by omega))];grind
  ·rw[ih (by omega) (fun i hi=>h i (by omega)),h n (by omega) (by omega)];grind
theorem sumQ_tail {f:Nat→Rat} {t n:Nat} (ht:t≤n) (h:∀ i,t≤i→i<n→f i=0):sumQ f n=sumQ f t:=by
 induction n with
 | zero=>obtain rfl:t=0:=by omega
         rfl
 | succ n ih=>
  by_cases e:t=n+1
  ·rw[e]
  ·rw[sumQ,ih (by omega) (fun i h1 h2=>h i h1 (by omega)),h n (by omega) (by omega)];grind
theorem sum_cast (f:Nat→Int) (n:Nat):((sum f n:Int):Rat)=sumQ (fun i=>(f i:Rat)) n:=by
 induction n with
 | zero=>rfl
 | succ n ih=>rw[sum,sumQ,← ih,Rat.intCast_add]
def Sp (ld:Nat→Bool) (L:Nat→Nat→Rat) (t:Nat) (u:Nat→Rat):Prop:=
 ∃ z:Nat→Rat,(∀ j,j<t→ld j=false→z j=0)∧∀ q,u q=sumQ (fun j=>z j*L j q) t
theorem Sp.nil (ld:Nat→Bool) (L:Nat→Nat→Rat) (t:Nat):Sp ld L t (fun _=>0):=
 ⟨fun _=>0,fun _ _ _=>rfl,fun q=>(sumQ_zero (fun i _=>by grind)).symm⟩
theorem Sp.combine {ld:Nat→Bool} {L:Nat→Nat→Rat} {t:Nat} {u v:Nat→Rat} (hu:Sp ld L t u) (c:Rat) (hv:Sp ld L t v):Sp ld L t (fun q=>u q+c*v q):=by
 obtain⟨y,hy,ey⟩:=hu
 obtain⟨z,hz,ez⟩:=hv
 refine⟨fun j=>y j+c*z j,fun j hj hl=>by simp only[hy j hj hl,hz j hj hl];grind,fun q=>?_⟩
 dsimp only
 rw[ey,ez,← sumQ_mul,← sumQ_add]
 exact sumQ_congr fun i _=>by grind
theorem Sp.mono {ld:Nat→Bool} {L:Nat→Nat→Rat} {t t':Nat} {u:Nat→Rat} (hu:Sp ld L t u) (h:t≤t'):Sp ld L t' u:=by
 obtain⟨y,hy,ey⟩:=hu
 refine⟨fun j=>if j<t then y j else 0,fun j hj hl=>?_,fun q=>?_⟩
 ·by_cases e:j<t
  ·simp only[if_pos e,hy j e hl]
  ·simp only[if_neg e]
 ·rw[ey,sumQ_tail h (fun i h1 _=>by simp only[if_neg (Nat.not_lt.2 h1)];grind)]
  exact sumQ_congr fun i hi=>by simp only[if_pos hi]
theorem Sp.lead {ld:Nat→Bool} {L:Nat→Nat→Rat} {t j:Nat} (hj:j<t) (hl:ld j=true):Sp ld L t (L j):=by
 refine⟨fun i=>if i=j then 1 else 0,fun i hi hn=>?_,fun q=>?_⟩
 ·have:i≠j:=fun e=>by rw[e,hl]at hn;cases hn
  simp only[if_neg this]
 ·rw[sumQ_single hj (fun i _ hne=>by simp only[if_neg hne];grind)]
  simp
theorem Sp.congr {ld:Nat→Bool} {L:Nat→Nat→Rat} {t:Nat} {u v:Nat→Rat} (hu:Sp ld L t u) (h:∀ q,v q=u q):Sp ld L t v:=by
 obtain⟨y,hy,ey⟩:=hu
 exact⟨y,hy,fun q=>by rw[h,ey]⟩
structure Inv (B:Nat) (ld:Nat→Bool) (L:Nat→Nat→Rat) (R:Nat→Nat→Int):Prop where
 low:∀ j q,q<j→L j q=0
 one:∀ j,L j j=1
 free:∀ j,ld j=false→∀ q,L j q=if q=j then 1 else 0
 rfree:∀ j,ld j=false→∀ q,R j q=if q=j then 1 else 0
 got:∀ p,ld p=true→∃ s:Rat,s≠0∧∃ u,Sp ld L p u∧∀ q,(R p q:Rat)=s*L p q+u q
 bound:∀ p q,(R p q).natAbs≤B
variable {B:Nat} {ld:Nat→Bool} {L:Nat→Nat→Rat} {R:Nat→Nat→Int}
theorem Inv.tri (h:Inv B ld L R) {z:Nat→Rat} {t:Nat} (hz:∀ q,q<t→sumQ (fun j=>z j*L j q) t=0):∀ j,j<t→z j=0:=by
 intro j
 induction j using Nat.strongRecOn with
 | ind j ih=>
  intro hj
  have h1:=hz j hj
  rw[sumQ_single hj (fun i hi hne=>?_),h.one]at h1
  ·grind
  ·rcases Nat.lt_or_ge i j with hlt|hge
   ·rw[ih i hlt hi];grind
   ·rw[h.low i j (by omega)];grind
theorem Inv.row (h:Inv B ld L R) (p:Nat):∃ s:Rat,s≠0∧∃ u,Sp ld L p u∧∀ q,(R p q:Rat)=s*L p q+u q:=by
 cases hl:ld p with
 | true=>exact h.got p hl
 | false=>
  refine⟨1,by grind,fun _=>0,Sp.nil _ _ _,fun q=>?_⟩
  rw[h.rfree p hl,h.free p hl]
  by_cases e:q=p
  ·simp only[if_pos e];grind
  ·simp only[if_neg e];grind
theorem Inv.comb (h:Inv B ld L R) (m:Nat→Rat) (t:Nat):∃ z:Nat→Rat,∀ q,sumQ (fun p=>m p*(R p q:Rat)) t=sumQ (fun j=>z j*L j q) t:=by
 induction t with
 | zero=>exact⟨fun _=>0,fun q=>rfl⟩
 | succ t ih=>
  obtain⟨z,hz⟩:=ih
  obtain⟨s,_,u,⟨y,_,ey⟩,hr⟩:=h.row t
  refine⟨fun j=>if j=t then m t*s else z j+m t*y j,fun q=>?_⟩
  dsimp only
  rw[sumQ,sumQ,hz,hr,ey,if_pos rfl]
  have e1:sumQ (fun j=>(if j=t then m t*s else z j+m t*y j)*L j q) t=sumQ (fun j=>z j*L j q) t+m t*sumQ (fun j=>y j*L j q) t:=by
   rw[← sumQ_mul,← sumQ_add]
   exact sumQ_congr fun i hi=>by rw[if_neg (by omega)];grind
  rw[e1]
  grind
theorem Inv.nonsing (h:Inv B ld L R):∀ (t:Nat) (m:Nat→Rat),(∀ q,q<t→sumQ (fun p=>m p*(R p q:Rat)) t=0)→∀ p,p<t→m p=0:=by
 intro t
 induction t with
 | zero=>intro m _ p hp;omega
 | succ t ih=>
  intro m hm
  obtain⟨z,hz⟩:=h.comb m t
  obtain⟨s,hs,u,⟨y,_,ey⟩,hr⟩:=h.row t
  have h1:∀ q,q<t+1→sumQ (fun j=>(if j=t then m t*s else z j+m t*y j)*L j q) (t+1)=0:=fun q hq=>by
   have h2:=hm q hq
   rw[sumQ,hz,hr,ey]at h2
   rw[sumQ,if_pos rfl]
   have e1:sumQ (fun j=>(if j=t then m t*s else z j+m t*y j)*L j q) t=sumQ (fun j=>z j*L j q) t+m t*sumQ (fun j=>y j*L j q) t:=by
    rw[← sumQ_mul,← sumQ_add]
    exact sumQ_congr fun i hi=>by rw[if_neg (by omega)];grind
   rw[e1]
   grind
  have h3:=h.tri h1 t (Nat.lt_succ_self _)
  rw[if_pos rfl]at h3
  have h4:m t=0:=by
   rcases Rat.mul_eq_zero.1 h3 with h5|h5
   ·exact h5
   ·exact absurd h5 hs
  intro p hp
  by_cases e:p=t
  ·rw[e];exact h4
  ·refine ih m (fun q hq=>?_) p (by omega)
   have h2:=hm q (by omega)
   rw[sumQ,h4]at h2
   grind
theorem Inv.small (h:Inv B ld L R) (v:Nat→Int) (hv:∀ q,(v q).natAbs≤B) (t:Nat):
  ∃ (m:Int) (k:Nat→Int) (N:Nat→Int),m≠0∧m.natAbs≤cap t B∧(∀ p,p<t→(k p).natAbs≤cap t B)∧(∀ q,(N q).natAbs≤(t+1)*(B*cap t B)) ∧
   (∀ q,q<t→N q=0)∧∀ q,(N q:Rat)=sumQ (fun p=>(k p:Rat)*(R p q:Rat)) t+(m:Rat)*(v q:Rat):=by
 obtain⟨x,⟨i0,hi0,hne⟩,hx,he⟩:=Sie.small t B (fun q i=>if i<t then R i q else v q) (fun q i _ _=>by
  split
  ·exact h.bound i q
  ·exact hv q)
 have hN:∀ q,((sum (fun i=>(if i<t then R i q else v q)*x i) (t+1):Int):Rat)=sumQ (fun p=>(x p:Rat)*(R p q:Rat)) t+(x t:Rat)*(v q:Rat):=fun q=>by
  rw[sum_cast,sumQ,if_neg (Nat.lt_irrefl t),Rat.intCast_mul]
  have e1:sumQ (fun i=>(((if i<t then R i q else v q)*x i:Int):Rat)) t=sumQ (fun p=>(x p:Rat)*(R p q:Rat)) t:=
   sumQ_congr fun i hi=>by rw[if_pos hi,Rat.intCast_mul];grind
  rw[e1]
  grind
 refine⟨x t,x,fun q=>sum (fun i=>(if i<t then R i q else v q)*x i) (t+1),?_,hx t (Nat.lt_succ_self _),fun p hp=>hx p (by omega),fun q=>?_,fun q hq=>he q hq,hN⟩
 ·intro h0
  have h1:∀ q,q<t→sumQ (fun p=>(x p:Rat)*(R p q:Rat)) t=0:=fun q hq=>by
   have h2:=hN q
   rw[he q hq,h0]at h2
   have h3:((0:Int):Rat)=0:=rfl
   rw[h3]at h2
   grind
  have h2:=h.nonsing t (fun p=>(x p:Rat)) h1
  by_cases e:i0=t
  ·rw[e]at hne;exact hne h0
  ·have h3:=h2 i0 (by omega)
   exact hne (by exact_mod_cast h3)
 ·have h1:∀ i,i<t+1→-((B*cap t B:Nat):Int)≤(if i<t then R i q else v q)*x i∧(if i<t then R i q else v q)*x i≤((B*cap t B:Nat):Int):=fun i hi=>by
   have h2:((if i<t then R i q else v q)*x i).natAbs≤B*cap t B:=by
    rw[Int.natAbs_mul]
    refine Nat.mul_le_mul ?_ (hx i hi)
    split
    ·exact h.bound i q
    ·exact hv q
   omega
  have h3:=sum_bound h1
  have h4:((t+1:Nat):Int)*((B*cap t B:Nat):Int)=(((t+1)*(B*cap t B):Nat):Int):=by rw[← Int.natCast_mul]
  rw[h4]at h3
  show(sum (fun i=>(if i<t then R i q else v q)*x i) (t+1)).natAbs≤(t+1)*(B*cap t B)
  omega
theorem Inv.height (h:Inv B ld L R) (v:Nat→Int) (hv:∀ q,(v q).natAbs≤B) (r:Nat→Rat) (t:Nat) (u:Nat→Rat) (hu:Sp ld L t u) (he:∀ q,(v q:Rat)=r q+u q) (h0:∀ q,q<t→r q=0):
  ∃ (m:Int) (N:Nat→Int),m≠0∧m.natAbs≤cap t B∧(∀ q,(N q).natAbs≤(t+1)*(B*cap t B))∧∀ q,(m:Rat)*r q=(N q:Rat):=by
 obtain⟨m,k,N,hm,hmc,_,hNc,hN0,hN⟩:=h.small v hv t
 refine⟨m,N,hm,hmc,hNc,?_⟩
 obtain⟨z,hz⟩:=h.comb (fun p=>(k p:Rat)) t
 obtain⟨y,_,ey⟩:=hu
 have e1:∀ q,(N q:Rat) - (m:Rat)*r q=sumQ (fun j=>(z j+(m:Rat)*y j)*L j q) t:=fun q=>by
  have e2:sumQ (fun j=>(z j+(m:Rat)*y j)*L j q) t=sumQ (fun j=>z j*L j q) t+(m:Rat)*sumQ (fun j=>y j*L j q) t:=by
   rw[← sumQ_mul,← sumQ_add]
   exact sumQ_congr fun i hi=>by grind
  rw[e2,hN,hz,he,ey]
  grind
 have h1:=h.tri (fun q hq=>by
  rw[← e1,h0 q hq,hN0 q hq]
  have:((0:Int):Rat)=0:=rfl
  rw[this]
  grind)
 intro q
 have h2:=e1 q
 rw[sumQ_zero (fun i hi=>by rw[h1 i hi];grind)]at h2
 grind
theorem Inv.coords (h:Inv B ld L R) (v:Nat→Int) (hv:∀ q,(v q).natAbs≤B) (n:Nat) (x:Nat→Rat) (u:Nat→Rat) (hu:Sp ld L n u)
  (he:∀ q,(v q:Rat)=sumQ (fun f=>(if ld f then 0 else x f)*L f q) n+u q):
  ∃ (m:Int) (N:Nat→Int),m≠0∧m.natAbs≤cap n B∧(∀ f,f<n→(N f).natAbs≤cap n B)∧∀ f,f<n→ld f=false→(m:Rat)*x f=(N f:Rat):=by
 obtain⟨m,k,N,hm,hmc,hkc,_,hN0,hN⟩:=h.small v hv n
 refine⟨m,fun f=>-k f,hm,hmc,fun f hf=>by have:=hkc f hf;show(-k f).natAbs≤_;omega,?_⟩
 obtain⟨y,hy,ey⟩:=hu
 have hc:∀ t,t≤n→∃ z:Nat→Rat,(∀ f,f<t→ld f=false→z f=(k f:Rat))∧∀ q,sumQ (fun p=>(k p:Rat)*(R p q:Rat)) t=sumQ (fun j=>z j*L j q) t:=by
  intro t
  induction t with
  | zero=>intro _;exact⟨fun _=>0,fun f hf=>absurd hf (Nat.not_lt_zero _),fun q=>rfl⟩
  | succ t ih=>
   intro ht
   obtain⟨z,hz,ez⟩:=ih (by omega)
   cases hl:ld t with
   | false=>
    refine⟨fun j=>if j=t then(k t:Rat)else z j,fun f hf hfl=>?_,fun q=>?_⟩
    ·by_cases e:f=t
     ·simp only[e,if_true]
     ·simp only[if_neg e];exact hz f (by omega) hfl
    ·dsimp only
     rw[sumQ,sumQ,ez,if_pos rfl,h.free t hl,h.rfree t hl]
     have e1:sumQ (fun j=>(if j=t then(k t:Rat)else z j)*L j q) t=sumQ (fun j=>z j*L j q) t:=sumQ_congr fun i hi=>by rw[if_neg (by omega)]
     rw[e1]
     by_cases e:q=t
     ·simp only[if_pos e];grind
     ·simp only[if_neg e];grind
   | true=>
    obtain⟨s,_,u',⟨y',hy',ey'⟩,hr⟩:=h.got t hl
    refine⟨fun j=>if j=t then(k t:Rat)*s else z j+(k t:Rat)*y' j,fun f hf hfl=>?_,fun q=>?_⟩
    ·have hne:f≠t:=fun e=>by rw[e,hl]at hfl;cases hfl
     simp only[if_neg hne]
     rw[hz f (by omega) hfl,hy' f (by omega) hfl]
     grind
    ·dsimp only
     rw[sumQ,sumQ,ez,hr,ey',if_pos rfl]
     have e1:sumQ (fun j=>(if j=t then(k t:Rat)*s else z j+(k t:Rat)*y' j)*L j q) t=sumQ (fun j=>z j*L j q) t+(k t:Rat)*sumQ (fun j=>y' j*L j q) t:=by
      rw[← sumQ_mul,← sumQ_add]
      exact sumQ_congr fun i hi=>by rw[if_neg (by omega)];grind
     rw[e1]
     grind
 obtain⟨z,hz,ez⟩:=hc n (Nat.le_refl _)
 have h1:=h.tri (t:=n) (z:=fun j=>z j+(m:Rat)*((if ld j then 0 else x j)+y j)) (fun q hq=>by
  have e2:sumQ (fun j=>(z j+(m:Rat)*((if ld j then 0 else x j)+y j))*L j q) n=sumQ (fun j=>z j*L j q) n+(m:Rat)*(sumQ (fun f=>(if ld f then 0 else x f)*L f q) n+sumQ (fun j=>y j*L j q) n):=by
   rw[← sumQ_add,← sumQ_mul,← sumQ_add]
   exact sumQ_congr fun i hi=>by grind
  have e3:=hN q
  rw[hN0 q hq,he,ey,ez]at e3
  have:((0:Int):Rat)=0:=rfl
  rw[this]at e3
  rw[e2]
  exact e3.symm)
 intro f hf hl
 have h2:=h1 f hf
 rw[hz f hf hl,hy f hf hl,hl]at h2
 simp only[Bool.false_eq_true,if_false]at h2
 rw[Rat.intCast_neg]
 grind
end Eli
end Go.Proofs.YtenlbhlllgppmaaGreatDoor
namespace Go.Proofs.YtenlbhlllgppmaaGreatDoor
open Eli
def linR (a b:Int) (p:Nat→Rat):Nat→Rat:=fun j=>(if 0<j then(a:Rat)*p (j - 1)else 0)+(b:Rat)*p j
theorem sumQ_swap (f:Nat→Nat→Rat) (n m:Nat):sumQ (fun i=>sumQ (fun l=>f i l) m) n=sumQ (fun l=>sumQ (fun i=>f i l) n) m:=by
 induction n with
 | zero=>exact(sumQ_zero (fun _ _=>rfl)).symm
 | succ n ih=>rw[sumQ,ih,← sumQ_add];exact sumQ_congr (fun _ _=>rfl)
theorem sumQ_front (f:Nat→Rat) (n:Nat):sumQ f (n+1)=f 0+sumQ (fun i=>f (i+1)) n:=by
 induction n with
 | zero=>show(0:Rat)+f 0=f 0+0;grind
 | succ n ih=>rw[sumQ,ih,sumQ];grind
theorem lin_comm (a b c d:Int) (p:Nat→Int):lin c d (lin a b p)=lin a b (lin c d p):=by
 funext j
 unfold lin
 by_cases h:0<j
 ·simp only[if_pos h]
  by_cases h1:0<j - 1
  ·simp only[if_pos h1];grind
  ·simp only[if_neg h1];grind
 ·simp only[if_neg h];grind
theorem mv_sat (a b c d:Int):∀ k i,k≤i→mv (i+1) a b c d k=mv i a b c d k
 | 0,_,_=>rfl
 | k+1,i,h=>by rw[mv,mv,if_pos (by omega),if_pos (by omega),mv_sat a b c d k i (by omega)]
theorem mv_up (a b c d:Int):∀ k i,i≤k→mv (i+1) a b c d (k+1)=lin a b (mv i a b c d k)
 | k,i,h=>by
  by_cases e:i=k
  ·subst e
   rw[mv,if_pos (by omega),mv_sat a b c d i i (Nat.le_refl _)]
  ·obtain⟨l,rfl⟩:∃ l,k=l+1:=⟨k - 1,by omega⟩
   rw[mv,if_neg (by omega),mv_up a b c d l i (by omega),mv,if_neg (by omega),lin_comm]
theorem mv_down {a b c d:Int} {k i:Nat} (h:i≤k):mv i a b c d (k+1)=lin c d (mv i a b c d k):=by
 rw[mv,if_neg (by omega)]
theorem cast_lin (a b:Int) (p:Nat→Int) (j:Nat):((lin a b p j:Int):Rat)=linR a b (fun i=>(p i:Rat)) j:=by
 unfold lin linR
 split <;> simp <;> grind
theorem linR_sum (a b:Int) (p:Nat→Rat) (f:Nat→Nat→Int) (n j:Nat):sumQ (fun i=>p i*linR a b (fun l=>(f i l:Rat)) j) n=linR a b (fun l=>sumQ (fun i=>p i*(f i l:Rat)) n) j:=by
 unfold linR
 by_cases h:0<j
 ·simp only[if_pos h]
  rw[← sumQ_mul,← sumQ_mul,← sumQ_add]
  exact sumQ_congr (fun i _=>by grind)
 ·simp only[if_neg h]
  rw[← sumQ_mul,Rat.zero_add]
  exact sumQ_congr (fun i _=>by grind)
theorem subst_lin (al be a b c d:Int) (p:Nat→Rat) (k j:Nat) (hp:p (k+1)=0):
  subst (linR al be p) (k+1) a b c d (k+2) j=linR (al*a+be*c) (al*b+be*d) (subst p k a b c d (k+1)) j:=by
 have e1:sumQ (fun i=>(if 0<i then(al:Rat)*p (i - 1)else 0)*(mv i a b c d (k+1) j:Int)) (k+2)=(al:Rat)*linR a b (subst p k a b c d (k+1)) j:=by
  rw[sumQ_front]
  simp only[Nat.lt_irrefl,if_false]
  unfold subst
  rw[← linR_sum a b p (fun i=>mv i a b c d k),← sumQ_mul,Rat.zero_mul,Rat.zero_add]
  refine sumQ_congr (fun i hi=>?_)
  rw[if_pos (by omega),mv_up a b c d k i (by omega),cast_lin,Nat.add_sub_cancel]
  grind
 have e2:sumQ (fun i=>(be:Rat)*p i*(mv i a b c d (k+1) j:Int)) (k+2)=(be:Rat)*linR c d (subst p k a b c d (k+1)) j:=by
  rw[sumQ,hp]
  unfold subst
  rw[← linR_sum c d p (fun i=>mv i a b c d k),← sumQ_mul]
  rw[show ∀ x:Rat,x+(be:Rat)*0*((mv (k+1) a b c d (k+1) j:Int):Rat)=x from fun x=>by grind]
  refine sumQ_congr (fun i hi=>?_)
  rw[mv_down (by omega),cast_lin]
  grind
 have e3:subst (linR al be p) (k+1) a b c d (k+2) j=(al:Rat)*linR a b (subst p k a b c d (k+1)) j+(be:Rat)*linR c d (subst p k a b c d (k+1)) j:=by
  rw[← e1,← e2,← sumQ_add]
  unfold subst
  refine sumQ_congr (fun i _=>?_)
  unfold linR
  grind
 rw[e3]
 unfold linR
 split <;> simp <;> grind
theorem subst_mv (a b c d a' b' c' d':Int) (i j:Nat):∀ k,subst (fun l=>(mv i a b c d k l:Rat)) k a' b' c' d' (k+1) j=(mv i (a*a'+b*c') (a*b'+b*d') (c*a'+d*c') (c*b'+d*d') k j:Rat):=by
 intro k
 induction k generalizing j with
 | zero=>
  show(0:Rat)+((if(0:Nat)=0 then 1 else 0:Int):Rat)*((if j=0 then 1 else 0:Int):Rat)=((if j=0 then 1 else 0:Int):Rat)
  split <;> simp <;> grind
 | succ k ih=>
  have hz:(fun l=>(mv i a b c d k l:Rat)) (k+1)=0:=by
   show((mv i a b c d k (k+1):Int):Rat)=0
   rw[mv_zero i a b c d k (k+1) (by omega)];rfl
  have hf:∀ al be,(fun l=>((lin al be (mv i a b c d k) l:Int):Rat))=linR al be (fun l=>(mv i a b c d k l:Rat)):=fun al be=>funext (fun l=>cast_lin al be _ l)
  by_cases h:k<i
  ·simp only[mv,if_pos h]
   rw[hf,subst_lin a b a' b' c' d' _ k j hz,cast_lin]
   unfold linR
   simp only[ih]
  ·simp only[mv,if_neg h]
   rw[hf,subst_lin c d a' b' c' d' _ k j hz,cast_lin]
   unfold linR
   simp only[ih]
theorem subst_subst (q:Nat→Rat) (a b c d a' b' c' d':Int) (m j:Nat):
  subst (subst q m a b c d (m+1)) m a' b' c' d' (m+1) j=subst q m (a*a'+b*c') (a*b'+b*d') (c*a'+d*c') (c*b'+d*d') (m+1) j:=by
 have h1:subst (subst q m a b c d (m+1)) m a' b' c' d' (m+1) j=sumQ (fun l=>sumQ (fun i=>q i*(mv i a b c d m l:Int)*(mv l a' b' c' d' m j:Int)) (m+1)) (m+1):=by
  unfold subst
  refine sumQ_congr (fun l _=>?_)
  rw[Rat.mul_comm,← sumQ_mul]
  exact sumQ_congr (fun i _=>by grind)
 rw[h1,← sumQ_swap]
 unfold subst
 refine sumQ_congr (fun i _=>?_)
 rw[← subst_mv a b c d a' b' c' d' i j m]
 unfold subst
 rw[← sumQ_mul]
 exact sumQ_congr (fun l _=>by grind)
theorem low_of {k x y:Int} (hk:k≠0) (h:Int.gcd x y=1):low (k*x) (k*y)=if y<0∨(y=0∧x<0)then(-x,-y)else(x,y):=by
 have hg:Int.gcd (k*x) (k*y)=k.natAbs:=by rw[Int.gcd_mul_left,h,Nat.mul_one]
 have hxy:¬ (x=0∧y=0):=by
  rintro⟨rfl,rfl⟩
  simp at h
 unfold low
 rw[hg]
 by_cases hp:0<k
 ·have e:((k.natAbs:Nat):Int)=k:=by omega
  rw[e,Int.mul_tdiv_cancel_left x hk,Int.mul_tdiv_cancel_left y hk]
  have h1:k*y<0↔y<0:=⟨fun h=>by rcases Int.lt_or_le y 0 with h2|h2;exact h2;exact absurd (Int.mul_nonneg (Int.le_of_lt hp) h2) (by omega),fun h=>Int.mul_neg_of_pos_of_neg hp h⟩
  have h2:k*x<0↔x<0:=⟨fun h=>by rcases Int.lt_or_le x 0 with h2|h2;exact h2;exact absurd (Int.mul_nonneg (Int.le_of_lt hp) h2) (by omega),fun h=>Int.mul_neg_of_pos_of_neg hp h⟩
  have h3:k*y=0↔y=0:=⟨fun h=>(Int.mul_eq_zero.1 h).resolve_left hk,fun h=>by rw[h,Int.mul_zero]⟩
  simp only[h1,h2,h3]
 ·have e:((k.natAbs:Nat):Int)=-k:=by omega
  have tx:(k*x).tdiv (-k)=-x:=by rw[Int.tdiv_neg,Int.mul_tdiv_cancel_left x hk]
  have ty:(k*y).tdiv (-k)=-y:=by rw[Int.tdiv_neg,Int.mul_tdiv_cancel_left y hk]
  rw[e,tx,ty]
  have hn:k<0:=by omega
  have h1:k*y<0↔0<y:=⟨fun h=>by rcases Int.lt_or_le 0 y with h2|h2;exact h2;exact absurd (Int.mul_nonneg_of_nonpos_of_nonpos (Int.le_of_lt hn) h2) (by omega),fun h=>Int.mul_neg_of_neg_of_pos hn h⟩
  have h2:k*x<0↔0<x:=⟨fun h=>by rcases Int.lt_or_le 0 x with h2|h2;exact h2;exact absurd (Int.mul_nonneg_of_nonpos_of_nonpos (Int.le_of_lt hn) h2) (by omega),fun h=>Int.mul_neg_of_neg_of_pos hn h⟩
  have h3:k*y=0↔y=0:=⟨fun h=>(Int.mul_eq_zero.1 h).resolve_left hk,fun h=>by rw[h,Int.mul_zero]⟩
  simp only[h1,h2,h3,Int.neg_neg]
  split <;> split <;> first|rfl |(exfalso;omega)
theorem low_spec {p q:Int} (h:Int.gcd p q≠0):∃ k x y:Int,k≠0∧Int.gcd x y=1∧p=k*x∧q=k*y∧low p q=(x,y)∧(0≤y∧(y=0→x=1))∧(x.natAbs≤p.natAbs∧y.natAbs≤q.natAbs):=by
 obtain⟨x,hx⟩:((Int.gcd p q:Nat):Int)∣p:=Int.gcd_dvd_left ..
 obtain⟨y,hy⟩:((Int.gcd p q:Nat):Int)∣q:=Int.gcd_dvd_right ..
 obtain⟨g,hg⟩:∃ g,Int.gcd p q=g:=⟨_,rfl⟩
 rw[hg]at hx hy h
 have hg0:(g:Int)≠0:=by omega
 have h1:Int.gcd x y=1:=by
  have h2:Int.gcd p q=g*Int.gcd x y:=by rw[hx,hy,Int.gcd_mul_left];simp
  rw[hg]at h2
  exact Nat.eq_of_mul_eq_mul_left (Nat.pos_of_ne_zero h) (by omega)
 have hL:=low_of hg0 h1
 rw[← hx,← hy]at hL
 have hxy:¬ (x=0∧y=0):=by
  rintro⟨rfl,rfl⟩
  simp at h1
 have b1:x.natAbs≤p.natAbs:=by rw[hx,Int.natAbs_mul];exact Nat.le_mul_of_pos_left _ (by omega)
 have b2:y.natAbs≤q.natAbs:=by rw[hy,Int.natAbs_mul];exact Nat.le_mul_of_pos_left _ (by omega)
 have hone:y=0→x.natAbs=1:=fun h=>by rw[h]at h1;simpa using h1
 by_cases hs:y<0∨(y=0∧x<0)
 ·rw[if_pos hs]at hL
  refine⟨-g,-x,-y,by omega,by rw[Int.gcd_neg,Int.neg_gcd];exact h1,by rw[hx];grind,by rw[hy];grind,hL,⟨by omega,fun h=>?_⟩,by omega,by omega⟩
  have:=hone (by omega)
  omega
 ·rw[if_neg hs]at hL
  refine⟨g,x,y,hg0,h1,hx,hy,hL,⟨by omega,fun h=>?_⟩,b1,b2⟩
  have:=hone h
  omega
theorem low_twice {a b c d p q a' b' c' d':Int} (h:Int.gcd (a*p+b*q) (c*p+d*q)≠0) (h2:Int.gcd (a'*(low (a*p+b*q) (c*p+d*q)).1+b'*(low (a*p+b*q) (c*p+d*q)).2) (c'*(low (a*p+b*q) (c*p+d*q)).1+d'*(low (a*p+b*q) (c*p+d*q)).2)≠0):
  low (a'*(low (a*p+b*q) (c*p+d*q)).1+b'*(low (a*p+b*q) (c*p+d*q)).2) (c'*(low (a*p+b*q) (c*p+d*q)).1+d'*(low (a*p+b*q) (c*p+d*q)).2)=low ((a'*a+b'*c)*p+(a'*b+b'*d)*q) ((c'*a+d'*c)*p+(c'*b+d'*d)*q):=by
 obtain⟨k,x,y,hk,h1,e1,e2,e3,-⟩:=low_spec h
 rw[e3]at h2 ⊢
 dsimp only at h2 ⊢
 obtain⟨l,u,v,hl,g1,f1,f2,f3,-⟩:=low_spec h2
 have m1:(a'*a+b'*c)*p+(a'*b+b'*d)*q=k*l*u:=by
  have:(a'*a+b'*c)*p+(a'*b+b'*d)*q=a'*(a*p+b*q)+b'*(c*p+d*q):=by grind
  rw[this,e1,e2,Int.mul_assoc,← f1];grind
 have m2:(c'*a+d'*c)*p+(c'*b+d'*d)*q=k*l*v:=by
  have:(c'*a+d'*c)*p+(c'*b+d'*d)*q=c'*(a*p+b*q)+d'*(c*p+d*q):=by grind
  rw[this,e1,e2,Int.mul_assoc,← f2];grind
 rw[m1,m2,low_of (Int.mul_ne_zero hk hl) g1,f1,f2,low_of hl g1]
def kIx (n:Nat) (u v:Int):Nat:=(u % n).toNat*n+(v % n).toNat
theorem kIx_div {n:Nat} (hn:0<n) (u v:Int):kIx n u v / n=(u % n).toNat:=by
 have h1:(v % n).toNat<n:=by have:=Int.emod_lt_of_pos v (show(0:Int)<n by omega);have:=Int.emod_nonneg v (show(n:Int)≠0 by omega);omega
 unfold kIx
 rw[Nat.mul_comm,Nat.mul_add_div hn,Nat.div_eq_of_lt h1,Nat.add_zero]
theorem kIx_mod {n:Nat} (hn:0<n) (u v:Int):kIx n u v % n=(v % n).toNat:=by
 have h1:(v % n).toNat<n:=by have:=Int.emod_lt_of_pos v (show(0:Int)<n by omega);have:=Int.emod_nonneg v (show(n:Int)≠0 by omega);omega
 unfold kIx
 rw[Nat.mul_comm,Nat.mul_add_mod,Nat.mod_eq_of_lt h1]
theorem kIx_lt {n:Nat} (hn:0<n) (u v:Int):kIx n u v<n*n:=by
 have h1:=Int.emod_lt_of_pos u (show(0:Int)<n by omega)
 have h2:=Int.emod_lt_of_pos v (show(0:Int)<n by omega)
 have h3:=Int.emod_nonneg u (show(n:Int)≠0 by omega)
 have h4:=Int.emod_nonneg v (show(n:Int)≠0 by omega)
 unfold kIx
 calc (u % n).toNat*n+(v % n).toNat<(u % n).toNat*n+n:=by omega
  _=((u % n).toNat+1)*n:=by rw[Nat.add_mul,Nat.one_mul]
  _≤n*n:=Nat.mul_le_mul_right _ (by omega)
theorem prim_iff {n:Nat} (hn:0<n) {u v:Int}:pok n (kIx n u v)=true↔∀ g:Nat,(g:Int)∣u→(g:Int)∣v→g∣n→g=1:=by
 have h3:=Int.emod_nonneg u (show(n:Int)≠0 by omega)
 have h4:=Int.emod_nonneg v (show(n:Int)≠0 by omega)
 have key:∀ {g:Nat} {x:Int},g∣n→0≤x % n→(g∣(x % n).toNat↔(g:Int)∣x):=fun {g x} hg h=>by
  rw[← Int.natCast_dvd_natCast,Int.toNat_of_nonneg h]
  constructor
  ·intro hd
   rw[← Int.emod_add_mul_ediv x n]
   exact Int.dvd_add hd (Int.dvd_trans (Int.natCast_dvd_natCast.2 hg) (Int.dvd_mul_right _ _))
  ·intro hd
   rw[Int.emod_def]
   exact Int.dvd_sub hd (Int.dvd_trans (Int.natCast_dvd_natCast.2 hg) (Int.dvd_mul_right _ _))
 unfold pok
 rw[kIx_div hn,kIx_mod hn,beq_iff_eq]
 constructor
 ·intro h g h1 h2 h5
  have:g∣Nat.gcd (Nat.gcd (u % n).toNat (v % n).toNat) n:=Nat.dvd_gcd (Nat.dvd_gcd ((key h5 h3).2 h1) ((key h5 h4).2 h2)) h5
  rw[h]at this
  exact Nat.dvd_one.1 this
 ·intro h
  have d3:=Nat.gcd_dvd_right (Nat.gcd (u % n).toNat (v % n).toNat) n
  exact h _ ((key d3 h3).1 (Nat.dvd_trans (Nat.gcd_dvd_left _ _) (Nat.gcd_dvd_left _ _))) ((key d3 h4).1 (Nat.dvd_trans (Nat.gcd_dvd_left _ _) (Nat.gcd_dvd_right _ _))) d3
theorem place_ex {n k:Nat} (hn:0<n) (hk:k<n*n) (hp:pok n k=true):∃ j s,j<(pts n (n*n)).length∧1≤s∧s≤n∧pun n s=true∧pmul n s ((pts n (n*n)).getD j 0)=k:=by
 have fin:∀ a s,a∈pts n (n*n)→1≤s→s≤n→pun n s=true→pmul n s a=k→∃ j s,j<(pts n (n*n)).length∧1≤s∧s≤n∧pun n s=true∧pmul n s ((pts n (n*n)).getD j 0)=k:=fun a s ha h1 h2 h3 h4=>by
  obtain⟨j,hj,e⟩:=List.getElem_of_mem ha
  exact⟨j,s,hj,h1,h2,h3,by rw[List.getD_eq_getElem?_getD,List.getElem?_eq_getElem hj,e];exact h4⟩
 cases hs:pseen n (pts n k) k with
 | true=>
  obtain⟨a,ha,s,h1,h2,h3,h4⟩:=pseen_iff.1 hs
  exact fin a s (pts_grow (Nat.le_of_lt hk) ha) h1 h2 h3 h4
 | false=>exact fin k 1 (pts_grow hk (pts_new hp hs)) (by omega) hn (by simp[pun]) (pmul_one hk)
section
variable {n wt:Nat} {D:Int} (x:Nat→Rat)
def cP (n wt:Nat) (x:Nat→Rat) (p:Nat×Int) (P:Nat→Rat):Rat:=sumQ (fun i=>P i*(p.2:Rat)*x (i*(pts n (n*n)).length+p.1)) (wt+1)
theorem sumQ_grid (g:Nat→Rat) (m:Nat):∀ w,sumQ g (w*m)=sumQ (fun i=>sumQ (fun j=>g (i*m+j)) m) w
 | 0=>by rw[Nat.zero_mul];rfl
 | w+1=>by
  have h:∀ b,sumQ g (w*m+b)=sumQ g (w*m)+sumQ (fun j=>g (w*m+j)) b:=by
   intro b
   induction b with
   | zero=>rw[Nat.add_zero];show _=_+(0:Rat);grind
   | succ b ih=>rw[← Nat.add_assoc,sumQ,ih,sumQ];grind
  rw[Nat.succ_mul,h m,sumQ,sumQ_grid g m w]
theorem mvd_sum {i j:Nat} {a b c d:Int} {p:Nat×Int} (hp:plcOf n D (((pts n (n*n)).getD j 0 / n:Nat)*a+((pts n (n*n)).getD j 0 % n:Nat)*c) (((pts n (n*n)).getD j 0 / n:Nat)*b+((pts n (n*n)).getD j 0 % n:Nat)*d)=p) (hpl:p.2≠0→p.1<(pts n (n*n)).length):
  sumQ (fun k=>(mvd n wt (pts n (n*n)) (plAll n D (pts n (n*n)) n) i j (a,b,c,d) k:Rat)*x k) ((wt+1)*(pts n (n*n)).length)=cP n wt x p (fun l=>(mv i a b c d wt l:Rat)):=by
 have hm:∀ k,mvd n wt (pts n (n*n)) (plAll n D (pts n (n*n)) n) i j (a,b,c,d) k=if p.2=0 then 0 else if k % (pts n (n*n)).length=p.1∧k / (pts n (n*n)).length≤wt then p.2*mv i a b c d wt (k / (pts n (n*n)).length)else 0:=by
  intro k
  unfold plcOf at hp
  unfold mvd
  simp only[mvd_index]
  rw[hp]
 rw[sumQ_grid]
 unfold cP
 refine sumQ_congr (fun l hl=>?_)
 by_cases h0:p.2=0
 ·rw[h0]
  rw[sumQ_zero (fun k _=>by rw[hm,if_pos h0];grind)]
  grind
 ·have hlt:=hpl h0
  have hpos:0<(pts n (n*n)).length:=by omega
  rw[sumQ_single hlt]
  ·rw[hm,if_neg h0,if_pos]
   ·rw[Nat.mul_comm l,Nat.mul_add_div hpos,Nat.div_eq_of_lt hlt,Nat.add_zero]
    push_cast
    grind
   ·rw[Nat.mul_comm l,Nat.mul_add_mod,Nat.mod_eq_of_lt hlt,Nat.mul_add_div hpos,Nat.div_eq_of_lt hlt]
    exact⟨rfl,by omega⟩
  ·intro k hk hne
   rw[hm,if_neg h0,if_neg]
   ·grind
   ·rw[Nat.mul_comm l,Nat.mul_add_mod,Nat.mod_eq_of_lt hk]
    exact fun h=>hne h.1
end
theorem prim_gcd {n:Nat} {u v:Int} (hn:0<n) (h:Int.gcd u v=1):pok n (kIx n u v)=true:=by
 rw[prim_iff hn]
 intro g h1 h2 _
 have h3:g∣Int.gcd u v:=Int.dvd_gcd h1 h2
 rw[h]at h3
 exact Nat.dvd_one.1 h3
theorem plc_prim {n:Nat} {D u v:Int} (hn:0<n) (hp:pok n (kIx n u v)=true):∃ j s,j<(pts n (n*n)).length∧1≤s∧s≤n∧pun n s=true∧pmul n s ((pts n (n*n)).getD j 0)=kIx n u v∧plcOf n D u v=(j,Pl.kroP D s):=by
 obtain⟨j,s,h1,h2,h3,h4,h5⟩:=place_ex hn (kIx_lt hn u v) hp
 exact⟨j,s,h1,h2,h3,h4,h5,plAll_hit hn h1 h2 h3 h4 h5 n h3 (Nat.le_refl _)⟩
theorem plc_ne {n wt:Nat} {D u v:Int} (hck:Pl.check n ((wt:Int)+2) D=0) (hp:pok n (kIx n u v)=true):(plcOf n D u v).2≠0∧(plcOf n D u v).1<(pts n (n*n)).length:=by
 obtain⟨⟨a1,a2⟩,_,⟨a3,a4⟩,a5,a6⟩:=Pl.check_ok hck
 have hn:0<n:=by omega
 obtain⟨j,t,b1,b2,b3,b4,b5,b6⟩:=plc_prim (D:=D) hn hp
 obtain⟨r,c1,c2,c3,c4⟩:=pun_small hn (pun_mul b4 b4)
 have hk:=Pl.kro_mul (N:=n) (D:=D) (a:=t) (b:=t) (c:=r) hn a3 a4 a5 a6 (by omega) (by omega) (by omega) (by omega) (by omega) (by omega) (by simpa [pun] using b4) (by simpa [pun] using b4) (by simpa [pun] using c3) c4.symm
 rw[b6]
 exact⟨by rcases hk.2 with h|h <;>(dsimp only;rw[h];decide),b1⟩
def RelZ (n wt:Nat) (D:Int) (x:Nat→Rat):Prop:=∀ r,r<2*((wt+1)*(pts n (n*n)).length)→sumQ (fun k=>(relOf n wt D r k:Rat)*x k) ((wt+1)*(pts n (n*n)).length)=0
theorem one_sum {n wt:Nat} {x:Nat→Rat} {r:Nat} (hr:r<(wt+1)*(pts n (n*n)).length):sumQ (fun k=>((if k=r then 1 else 0:Int):Rat)*x k) ((wt+1)*(pts n (n*n)).length)=x r:=by
 rw[sumQ_single hr]
 ·rw[if_pos rfl];push_cast;grind
 ·intro i _ h;rw[if_neg h];push_cast;grind
theorem pt_pair {n j:Nat} (hn:0<n) (hj:j<(pts n (n*n)).length):kIx n ((pts n (n*n)).getD j 0 / n:Nat) ((pts n (n*n)).getD j 0 % n:Nat)=(pts n (n*n)).getD j 0∧pok n (kIx n ((pts n (n*n)).getD j 0 / n:Nat) ((pts n (n*n)).getD j 0 % n:Nat))=true:=by
 have hm:=getD_mem hj
 have hlt:=pts_lt hm
 have e:kIx n ((pts n (n*n)).getD j 0 / n:Nat) ((pts n (n*n)).getD j 0 % n:Nat)=(pts n (n*n)).getD j 0:=by
  have h1:(pts n (n*n)).getD j 0 / n<n:=Nat.div_lt_of_lt_mul hlt
  have h2:(pts n (n*n)).getD j 0 % n<n:=Nat.mod_lt _ hn
  have h5:∀ z:Nat,z<n→(((z:Nat):Int) % n).toNat=z:=fun z hz=>by rw[Int.emod_eq_of_lt (by omega) (by omega)];omega
  have h3:=h5 _ h1
  have h4:=h5 _ h2
  unfold kIx
  rw[h3,h4,Nat.mul_comm,Nat.div_add_mod]
 exact⟨e,by rw[e];exact(pts_ok hm).1⟩
end Go.Proofs.YtenlbhlllgppmaaGreatDoor
