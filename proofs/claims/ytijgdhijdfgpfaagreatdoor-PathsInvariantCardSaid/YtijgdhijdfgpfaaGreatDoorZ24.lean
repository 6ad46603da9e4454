/- Elimination over the rationals: rows with leading entries 1, what they span, and how large the entries of a reduced row are. No program in sight. -/
import Derived.Test.YtijgdhijdfgpfaaGreatDoorZ23
namespace Go.Proofs.YtijgdhijdfgpfaaGreatDoor
namespace Eli
open Sie
theorem sumQ_congr {f g:Nat→Rat} {n:Nat} (h:∀ i,i<n→f i=g i):sumQ f n=sumQ g n:=by
 induction n with
 | zero=>rfl
 | succ n ih=>rw[sumQ,sumQ,ih (fun i hi=>h i (by omega)),h n (Nat.lt_succ_self _)]
theorem sumQ_add (f g:Nat→Rat) (n:Nat):sumQ (fun i=>f i+g i) n=sumQ f n+sumQ g n:=by
 induction n with
 | zero=>rw[sumQ,sumQ,sumQ];grind
 | succ n ih=>rw[sumQ,sumQ,sumQ,ih];grind
theorem sumQ_mul (c:Rat) (f:Nat→Rat) (n:Nat):sumQ (fun i=>c*f i) n=c*sumQ f n:=by
 induction n with
 | zero=>rw[sumQ,sumQ];grind
 | succ n ih=>rw[sumQ,sumQ,ih];grind
theorem sumQ_zero {f:Nat→Rat} {n:Nat} (h:∀ i,i<n→f i=0):sumQ f n=0:=by
 induction n with
 | zero=>rfl
 | succ n ih=>rw[sumQ,ih (fun i hi=>h i (by omega)),h n (Nat.lt_succ_self _)];grind
theorem sumQ_single {f:Nat→Rat} {n j:Nat} (hj:j<n) (h:∀ i,i<n→i≠j→f i=0):sumQ f n=f j:=by
 induction n with
 | zero=>omega
 | succ n ih=>
  rw[sumQ]
  by_cases e:j=n
  ·subst e
   rw[sumQ_zero (fun i hi=>h i (by omega) (by omega))];grind
  ·rw[ih (by omega) (fun i hi=>h i (by omega)),h n (by omega) (by omega)];grind
theorem sumQ_tail {f:Nat→Rat} {t n:Nat} (ht:t≤n) (h:∀ i,t≤i→i<n→f i=0):sumQ f n=sumQ f t:=by
 induction n with
 | zero=>obtain rfl:t=0:=by omega
         rfl
 | succ n ih=>
  by_cases e:t=n+1
  ·rw[e]
  ·rw[sumQ,ih (by omega) (fun i h1 h2=>h i h1 (by omega)),h n (by omega) (by omega)];grind
theorem sum_cast (f:Nat→Int) (n:Nat):((sum f n:Int):Rat)=sumQ (fun i=>(f i:Rat)) n:=by
 induction n with
 | zero=>rfl
 | succ n ih=>rw[sum,sumQ,← ih,Rat.intCast_add]
def Sp (ld:Nat→Bool) (L:Nat→Nat→Rat) (t:Nat) (u:Nat→Rat):Prop:=
 ∃ z:Nat→Rat,(∀ j,j<t→ld j=false→z j=0)∧∀ q,u q=sumQ (fun j=>z j*L j q) t
theorem Sp.nil (ld:Nat→Bool) (L:Nat→Nat→Rat) (t:Nat):Sp ld L t (fun _=>0):=
 ⟨fun _=>0,fun _ _ _=>rfl,fun q=>(sumQ_zero (fun i _=>by grind)).symm⟩
theorem Sp.combine {ld:Nat→Bool} {L:Nat→Nat→Rat} {t:Nat} {u v:Nat→Rat} (hu:Sp ld L t u) (c:Rat) (hv:Sp ld L t v):Sp ld L t (fun q=>u q+c*v q):=by
 obtain⟨y,hy,ey⟩:=hu
 obtain⟨z,hz,ez⟩:=hv
 refine⟨fun j=>y j+c*z j,fun j hj hl=>by simp only[hy j hj hl,hz j hj hl];grind,fun q=>?_⟩
 dsimp only
 rw[ey,ez,← sumQ_mul,← sumQ_add]
 exact sumQ_congr fun i _=>by grind
theorem Sp.mono {ld:Nat→Bool} {L:Nat→Nat→Rat} {t t':Nat} {u:Nat→Rat} (hu:Sp ld L t u) (h:t≤t'):Sp ld L t' u:=by
 obtain⟨y,hy,ey⟩:=hu
 refine⟨fun j=>if j<t then y j else 0,fun j hj hl=>?_,fun q=>?_⟩
 ·by_cases e:j<t
  ·simp only[if_pos e,hy j e hl]
  ·simp only[if_neg e]
 ·rw[ey,sumQ_tail h (fun i h1 _=>by simp only[if_neg (Nat.not_lt.2 h1)];grind)]
  exact sumQ_congr fun i hi=>by simp only[if_pos hi]
theorem Sp.lead {ld:Nat→Bool} {L:Nat→Nat→Rat} {t j:Nat} (hj:j<t) (hl:ld j=true):Sp ld L t (L j):=by
 refine⟨fun i=>if i=j then 1 else 0,fun i hi hn=>?_,fun q=>?_⟩
 ·have:i≠j:=fun e=>by rw[e,hl]at hn;cases hn
  simp only[if_neg this]
 ·rw[sumQ_single hj (fun i _ hne=>by simp only[if_neg hne];grind)]
  simp
theorem Sp.congr {ld:Nat→Bool} {L:Nat→Nat→Rat} {t:Nat} {u v:Nat→Rat} (hu:Sp ld L t u) (h:∀ q,v q=u q):Sp ld L t v:=by
 obtain⟨y,hy,ey⟩:=hu
 exact⟨y,hy,fun q=>by rw[h,ey]⟩
structure Inv (B:Nat) (ld:Nat→Bool) (L:Nat→Nat→Rat) (R:Nat→Nat→Int):Prop where
 low:∀ j q,q<j→L j q=0
 one:∀ j,L j j=1
 free:∀ j,ld j=false→∀ q,L j q=if q=j then 1 else 0
 rfree:∀ j,ld j=false→∀ q,R j q=if q=j then 1 else 0
 got:∀ p,ld p=true→∃ s:Rat,s≠0∧∃ u,Sp ld L p u∧∀ q,(R p q:Rat)=s*L p q+u q
 bound:∀ p q,(R p q).natAbs≤B
variable {B:Nat} {ld:Nat→Bool} {L:Nat→Nat→Rat} {R:Nat→Nat→Int}
theorem Inv.tri (h:Inv B ld L R) {z:Nat→Rat} {t:Nat} (hz:∀ q,q<t→sumQ (fun j=>z j*L j q) t=0):∀ j,j<t→z j=0:=by
 intro j
 induction j using Nat.strongRecOn with
 | ind j ih=>
  intro hj
  have h1:=hz j hj
  rw[sumQ_single hj (fun i hi hne=>?_),h.one]at h1
  ·grind
  ·rcases Nat.lt_or_ge i j with hlt|hge
   ·rw[ih i hlt hi];grind
   ·rw[h.low i j (by omega)];grind
theorem Inv.row (h:Inv B ld L R) (p:Nat):∃ s:Rat,s≠0∧∃ u,Sp ld L p u∧∀ q,(R p q:Rat)=s*L p q+u q:=by
 cases hl:ld p with
 | true=>exact h.got p hl
 | false=>
  refine⟨1,by grind,fun _=>0,Sp.nil _ _ _,fun q=>?_⟩
  rw[h.rfree p hl,h.free p hl]
  by_cases e:q=p
  ·simp only[if_pos e];grind
  ·simp only[if_neg e];grind
theorem Inv.comb (h:Inv B ld L R) (m:Nat→Rat) (t:Nat):∃ z:Nat→Rat,∀ q,sumQ (fun p=>m p*(R p q:Rat)) t=sumQ (fun j=>z j*L j q) t:=by
 induction t with
 | zero=>exact⟨fun _=>0,fun q=>rfl⟩
 | succ t ih=>
  obtain⟨z,hz⟩:=ih
  obtain⟨s,_,u,⟨y,_,ey⟩,hr⟩:=h.row t
  refine⟨fun j=>if j=t then m t*s else z j+m t*y j,fun q=>?_⟩
  dsimp only
  rw[sumQ,sumQ,hz,hr,ey,if_pos rfl]
  have e1:sumQ (fun j=>(if j=t then m t*s else z j+m t*y j)*L j q) t=sumQ (fun j=>z j*L j q) t+m t*sumQ (fun j=>y j*L j q) t:=by
   rw[← sumQ_mul,← sumQ_add]
   exact sumQ_congr fun i hi=>by rw[if_neg (by omega)];grind
  rw[e1]
  grind
theorem Inv.nonsing (h:Inv B ld L R):∀ (t:Nat) (m:Nat→Rat),(∀ q,q<t→sumQ (fun p=>m p*(R p q:Rat)) t=0)→∀ p,p<t→m p=0:=by
 intro t
 induction t with
 | zero=>intro m _ p hp;omega
 | succ t ih=>
  intro m hm
  obtain⟨z,hz⟩:=h.comb m t
  obtain⟨s,hs,u,⟨y,_,ey⟩,hr⟩:=h.row t
  have h1:∀ q,q<t+1→sumQ (fun j=>(if j=t then m t*s else z j+m t*y j)*L j q) (t+1)=0:=fun q hq=>by
   have h2:=hm q hq
   rw[sumQ,hz,hr,ey]at h2
   rw[sumQ,if_pos rfl]
   have e1:sumQ (fun j=>(if j=t then m t*s else z j+m t*y j)*L j q) t=sumQ (fun j=>z j*L j q) t+m t*sumQ (fun j=>y j*L j q) t:=by
    rw[← sumQ_mul,← sumQ_add]
    exact sumQ_congr fun i hi=>by rw[if_neg (by omega)];grind
   rw[e1]
   grind
  have h3:=h.tri h1 t (Nat.lt_succ_self _)
  rw[if_pos rfl]at h3
  have h4:m t=0:=by
   rcases Rat.mul_eq_zero.1 h3 with h5|h5
   ·exact h5
   ·exact absurd h5 hs
  intro p hp
  by_cases e:p=t
  ·rw[e];exact h4
  ·refine ih m (fun q hq=>?_) p (by omega)
   have h2:=hm q (by omega)
   rw[sumQ,h4]at h2
   grind
theorem Inv.small (h:Inv B ld L R) (v:Nat→Int) (hv:∀ q,(v q).natAbs≤B) (t:Nat):
  ∃ (m:Int) (k:Nat→Int) (N:Nat→Int),m≠0∧m.natAbs≤cap t B∧(∀ p,p<t→(k p).natAbs≤cap t B)∧(∀ q,(N q).natAbs≤(t+1)*(B*cap t B)) ∧
   (∀ q,q<t→N q=0)∧∀ q,(N q:Rat)=sumQ (fun p=>(k p:Rat)*(R p q:Rat)) t+(m:Rat)*(v q:Rat):=by
 obtain⟨x,⟨i0,hi0,hne⟩,hx,he⟩:=Sie.small t B (fun q i=>if i<t then R i q else v q) (fun q i _ _=>by
  split
  ·exact h.bound i q
  ·exact hv q)
 have hN:∀ q,((sum (fun i=>(if i<t then R i q else v q)*x i) (t+1):Int):Rat)=sumQ (fun p=>(x p:Rat)*(R p q:Rat)) t+(x t:Rat)*(v q:Rat):=fun q=>by
  rw[sum_cast,sumQ,if_neg (Nat.lt_irrefl t),Rat.intCast_mul]
  have e1:sumQ (fun i=>(((if i<t then R i q else v q)*x i:Int):Rat)) t=sumQ (fun p=>(x p:Rat)*(R p q:Rat)) t:=
   sumQ_congr fun i hi=>by rw[if_pos hi,Rat.intCast_mul];grind
  rw[e1]
  grind
 refine⟨x t,x,fun q=>sum (fun i=>(if i<t then R i q else v q)*x i) (t+1),?_,hx t (Nat.lt_succ_self _),fun p hp=>hx p (by omega),fun q=>?_,fun q hq=>he q hq,hN⟩
 ·intro h0
  have h1:∀ q,q<t→sumQ (fun p=>(x p:Rat)*(R p q:Rat)) t=0:=fun q hq=>by
   have h2:=hN q
   rw[he q hq,h0]at h2
   have h3:((0:Int):Rat)=0:=rfl
   rw[h3]at h2
   grind
  have h2:=h.nonsing t (fun p=>(x p:Rat)) h1
  by_cases e:i0=t
  ·rw[e]at hne;exact hne h0
  ·have h3:=h2 i0 (by omega)
   exact hne (by exact_mod_cast h3)
 ·have h1:∀ i,i<t+1→-((B*cap t B:Nat):Int)≤(if i<t then R i q else v q)*x i∧(if i<t then R i q else v q)*x i≤((B*cap t B:Nat):Int):=fun i hi=>by
   have h2:((if i<t then R i q else v q)*x i).natAbs≤B*cap t B:=by
    rw[Int.natAbs_mul]
    refine Nat.mul_le_mul ?_ (hx i hi)
    split
    ·exact h.bound i q
    ·exact hv q
   omega
  have h3:=sum_bound h1
  have h4:((t+1:Nat):Int)*((B*cap t B:Nat):Int)=(((t+1)*(B*cap t B):Nat):Int):=by rw[← Int.natCast_mul]
  rw[h4]at h3
  show(sum (fun i=>(if i<t then R i q else v q)*x i) (t+1)).natAbs≤(t+1)*(B*cap t B)
  omega
theorem Inv.height (h:Inv B ld L R) (v:Nat→Int) (hv:∀ q,(v q).natAbs≤B) (r:Nat→Rat) (t:Nat) (u:Nat→Rat) (hu:Sp ld L t u) (he:∀ q,(v q:Rat)=r q+u q) (h0:∀ q,q<t→r q=0):
  ∃ (m:Int) (N:Nat→Int),m≠0∧m.natAbs≤cap t B∧(∀ q,(N q).natAbs≤(t+1)*(B*cap t B))∧∀ q,(m:Rat)*r q=(N q:Rat):=by
 obtain⟨m,k,N,hm,hmc,_,hNc,hN0,hN⟩:=h.small v hv t
 refine⟨m,N,hm,hmc,hNc,?_⟩
 obtain⟨z,hz⟩:=h.comb (fun p=>(k p:Rat)) t
 obtain⟨y,_,ey⟩:=hu
 have e1:∀ q,(N q:Rat) - (m:Rat)*r q=sumQ (fun j=>(z j+(m:Rat)*y j)*L j q) t:=fun q=>by
  have e2:sumQ (fun j=>(z j+(m:Rat)*y j)*L j q) t=sumQ (fun j=>z j*L j q) t+(m:Rat)*sumQ (fun j=>y j*L j q) t:=by
   rw[← sumQ_mul,← sumQ_add]
   exact sumQ_congr fun i hi=>by grind
  rw[e2,hN,hz,he,ey]
  grind
 have h1:=h.tri (fun q hq=>by
  rw[← e1,h0 q hq,hN0 q hq]
  have:((0:Int):Rat)=0:=rfl
  rw[this]
  grind)
 intro q
 have h2:=e1 q
 rw[sumQ_zero (fun i hi=>by rw[h1 i hi];grind)]at h2
 grind
theorem Inv.coords (h:Inv B ld L R) (v:Nat→Int) (hv:∀ q,(v q).natAbs≤B) (n:Nat) (x:Nat→Rat) (u:Nat→Rat) (hu:Sp ld L n u)
  (he:∀ q,(v q:Rat)=sumQ (fun f=>(if ld f then 0 else x f)*L f q) n+u q):
  ∃ (m:Int) (N:Nat→Int),m≠0∧m.natAbs≤cap n B∧(∀ f,f<n→(N f).natAbs≤cap n B)∧∀ f,f<n→ld f=false→(m:Rat)*x f=(N f:Rat):=by
 obtain⟨m,k,N,hm,hmc,hkc,_,hN0,hN⟩:=h.small v hv n
 refine⟨m,fun f=>-k f,hm,hmc,fun f hf=>by have:=hkc f hf;show(-k f).natAbs≤_;omega,?_⟩
 obtain⟨y,hy,ey⟩:=hu
 have hc:∀ t,t≤n→∃ z:Nat→Rat,(∀ f,f<t→ld f=false→z f=(k f:Rat))∧∀ q,sumQ (fun p=>(k p:Rat)*(R p q:Rat)) t=sumQ (fun j=>z j*L j q) t:=by
  intro t
  induction t with
  | zero=>intro _;exact⟨fun _=>0,fun f hf=>absurd hf (Nat.not_lt_zero _),fun q=>rfl⟩
  | succ t ih=>
   intro ht
   obtain⟨z,hz,ez⟩:=ih (by omega)
   cases hl:ld t with
   | false=>
    refine⟨fun j=>if j=t then(k t:Rat)else z j,fun f hf hfl=>?_,fun q=>?_⟩
    ·by_cases e:f=t
     ·simp only[e,if_true]
     ·simp only[if_neg e];exact hz f (by omega) hfl
    ·dsimp only
     rw[sumQ,sumQ,ez,if_pos rfl,h.free t hl,h.rfree t hl]
     have e1:sumQ (fun j=>(if j=t then(k t:Rat)else z j)*L j q) t=sumQ (fun j=>z j*L j q) t:=sumQ_congr fun i hi=>by rw[if_neg (by omega)]
     rw[e1]
     by_cases e:q=t
     ·simp only[if_pos e];grind
     ·simp only[if_neg e];grind
   | true=>
    obtain⟨s,_,u',⟨y',hy',ey'⟩,hr⟩:=h.got t hl
    refine⟨fun j=>if j=t then(k t:Rat)*s else z j+(k t:Rat)*y' j,fun f hf hfl=>?_,fun q=>?_⟩
    ·have hne:f≠t:=fun e=>by rw[e,hl]at hfl;cases hfl
     simp only[if_neg hne]
     rw[hz f (by omega) hfl,hy' f (by omega) hfl]
     grind
    ·dsimp only
     rw[sumQ,sumQ,ez,hr,ey',if_pos rfl]
     have e1:sumQ (fun j=>(if j=t then(k t:Rat)*s else z j+(k t:Rat)*y' j)*L j q) t=sumQ (fun j=>z j*L j q) t+(k t:Rat)*sumQ (fun j=>y' j*L j q) t:=by
      rw[← sumQ_mul,← sumQ_add]
      exact sumQ_congr fun i hi=>by rw[if_neg (by omega)];grind
     rw[e1]
     grind
 obtain⟨z,hz,ez⟩:=hc n (Nat.le_refl _)
 have h1:=h.tri (t:=n) (z:=fun j=>z j+(m:Rat)*((if ld j then 0 else x j)+y j)) (fun q hq=>by
  have e2:sumQ (fun j=>(z j+(m:Rat)*((if ld j then 0 else x j)+y j))*L j q) n=sumQ (fun j=>z j*L j q) n+(m:Rat)*(sumQ (fun f=>(if ld f then 0 else x f)*L f q) n+sumQ (fun j=>y j*L j q) n):=by
   rw[← sumQ_add,← sumQ_mul,← sumQ_add]
   exact sumQ_congr fun i hi=>by grind
  have e3:=hN q
  rw[hN0 q hq,he,ey,ez]at e3
  have:((0:Int):Rat)=0:=rfl
  rw[this]at e3
  rw[e2]
  exact e3.symm)
 intro f hf hl
 have h2:=h1 f hf
 rw[hz f hf hl,hy f hf hl,hl]at h2
 simp only[Bool.false_eq_true,if_false]at h2
 rw[Rat.intCast_neg]
 grind
end Eli
end Go.Proofs.YtijgdhijdfgpfaaGreatDoor
namespace Go.Proofs.YtijgdhijdfgpfaaGreatDoor
namespace Eli
open Sie
def val:List (Nat×Rat)→Nat→Rat
 | [],_=>0
 | t :: r,q=>(if q=t.1 then t.2 else 0)+val r q
def Ord (n:Nat):Nat→List (Nat×Rat)→Prop
 | _,[]=>True
 | t,x :: r=>t≤x.1∧x.1<n∧x.2≠0∧Ord n (x.1+1) r
theorem Ord.mono {n:Nat}:∀ {t s:Nat} {r:List (Nat×Rat)},Ord n t r→s≤t→Ord n s r
 | _,_,[],_,_=>trivial
 | _,_,_ :: _,h,hs=>⟨Nat.le_trans hs h.1,h.2⟩
theorem val_low {n:Nat}:∀ {t:Nat} {r:List (Nat×Rat)},Ord n t r→∀ q,q<t→val r q=0
 | _,[],_,_,_=>rfl
 | t,x :: r,h,q,hq=>by
  have h1:=h.1
  rw[val,if_neg (by omega),val_low h.2.2.2 q (by omega)]
  grind
theorem val_mem {n:Nat}:∀ {t:Nat} {r:List (Nat×Rat)},Ord n t r→∀ x,x∈r→val r x.1=x.2∧t≤x.1∧x.1<n∧x.2≠0
 | _,[],_,_,hx=>by cases hx
 | t,y :: r,h,x,hx=>by
  rcases List.mem_cons.1 hx with rfl|hx
  ·refine⟨?_,h.1,h.2.1,h.2.2.1⟩
   rw[val,if_pos rfl,val_low h.2.2.2 _ (by omega)]
   grind
  ·obtain⟨h1,h2,h3,h4⟩:=val_mem h.2.2.2 x hx
   have h5:=h.1
   refine⟨?_,by omega,h3,h4⟩
   rw[val,if_neg (by omega),h1]
   grind
def mgo (c:Rat) (p:Nat) (x:Rat) (more:List (Nat×Rat)→List (Nat×Rat)):List (Nat×Rat)→List (Nat×Rat)
 | []=>(p,x) :: more []
 | y :: b=>if p<y.1 then(p,x) :: more (y :: b)else if y.1<p then(y.1,-(c*y.2)) :: mgo c p x more b else if x - c*y.2=0 then more b else(p,x - c*y.2) :: more b
def mrg (c:Rat):List (Nat×Rat)→List (Nat×Rat)→List (Nat×Rat)
 | []=>fun b=>b.map (fun y=>(y.1,-(c*y.2)))
 | x :: a=>mgo c x.1 x.2 (mrg c a)
theorem mrg_nil (c:Rat):mrg c [] []=[]:=rfl
theorem mrg_left (c:Rat) (x:Nat×Rat) (a:List (Nat×Rat)):mrg c (x :: a) []=x :: mrg c a []:=rfl
theorem mrg_right (c:Rat) (y:Nat×Rat) (b:List (Nat×Rat)):mrg c [] (y :: b)=(y.1,-(c*y.2)) :: mrg c [] b:=rfl
theorem mrg_lt (c:Rat) (x y:Nat×Rat) (a b:List (Nat×Rat)) (h:x.1<y.1):mrg c (x :: a) (y :: b)=x :: mrg c a (y :: b):=by
 show mgo c x.1 x.2 (mrg c a) (y :: b)=_
 rw[mgo,if_pos h]
theorem mrg_gt (c:Rat) (x y:Nat×Rat) (a b:List (Nat×Rat)) (h:y.1<x.1):mrg c (x :: a) (y :: b)=(y.1,-(c*y.2)) :: mrg c (x :: a) b:=by
 show mgo c x.1 x.2 (mrg c a) (y :: b)=_
 rw[mgo,if_neg (by omega),if_pos h]
 rfl
theorem mrg_eq0 (c:Rat) (x y:Nat×Rat) (a b:List (Nat×Rat)) (h:x.1=y.1) (h0:x.2 - c*y.2=0):mrg c (x :: a) (y :: b)=mrg c a b:=by
 show mgo c x.1 x.2 (mrg c a) (y :: b)=_
 rw[mgo,if_neg (by omega),if_neg (by omega),if_pos h0]
theorem mrg_eq1 (c:Rat) (x y:Nat×Rat) (a b:List (Nat×Rat)) (h:x.1=y.1) (h0:x.2 - c*y.2≠0):mrg c (x :: a) (y :: b)=(x.1,x.2 - c*y.2) :: mrg c a b:=by
 show mgo c x.1 x.2 (mrg c a) (y :: b)=_
 rw[mgo,if_neg (by omega),if_neg (by omega),if_neg h0]
theorem val_cons (x:Nat×Rat) (r:List (Nat×Rat)) (q:Nat):val (x :: r) q=(if q=x.1 then x.2 else 0)+val r q:=rfl
theorem val_nil (q:Nat):val [] q=0:=rfl
theorem val_mrg (c:Rat) (q:Nat):∀ (a b:List (Nat×Rat)),val (mrg c a b) q=val a q - c*val b q:=by
 intro a
 induction a with
 | nil=>
  intro b
  induction b with
  | nil=>rw[mrg_nil,val_nil];grind
  | cons y b ih=>
   rw[mrg_right,val_cons,ih,val_cons,val_nil]
   dsimp only
   split <;> grind
 | cons x a iha=>
  intro b
  induction b with
  | nil=>
   rw[mrg_left,val_cons,iha,val_cons,val_nil]
   clear iha
   grind
  | cons y b ihb=>
   have i1:=iha b
   have i2:=iha (y :: b)
   clear iha
   rw[val_cons]at ihb i2
   rcases Nat.lt_trichotomy x.1 y.1 with h|h|h
   ·rw[mrg_lt c x y a b h,val_cons,i2,val_cons,val_cons]
    clear ihb i1 i2
    generalize (if q=x.1 then x.2 else 0)=e1
    generalize (if q=y.1 then y.2 else 0)=e2
    grind
   ·by_cases h0:x.2 - c*y.2=0
    ·rw[mrg_eq0 c x y a b h h0,i1,val_cons,val_cons,h]
     clear ihb i1 i2
     by_cases e:q=y.1
     ·rw[if_pos e,if_pos e];grind
     ·rw[if_neg e,if_neg e];grind
    ·rw[mrg_eq1 c x y a b h h0,val_cons,i1,val_cons,val_cons,h]
     clear ihb i1 i2
     by_cases e:q=y.1
     ·rw[if_pos e,if_pos e];grind
     ·rw[if_neg e,if_neg e];grind
   ·rw[mrg_gt c x y a b h,val_cons,ihb,val_cons,val_cons]
    clear ihb i1 i2
    dsimp only
    by_cases e:q=y.1
    ·rw[if_pos e,if_neg (by omega),if_pos e];grind
    ·rw[if_neg e,if_neg e];grind
theorem ord_mrg {n:Nat} {c:Rat} (hc:c≠0):∀ (a b:List (Nat×Rat)) (t:Nat),Ord n t a→Ord n t b→Ord n t (mrg c a b):=by
 have hne:∀ y:Rat,y≠0→-(c*y)≠0:=fun y hy h=>by
  have h1:c*y=0:=by grind
  rcases Rat.mul_eq_zero.1 h1 with h2|h2
  ·exact hc h2
  ·exact hy h2
 intro a
 induction a with
 | nil=>
  intro b
  induction b with
  | nil=>intro t _ _;exact trivial
  | cons y b ih=>intro t ha hb;rw[mrg_right];exact⟨hb.1,hb.2.1,hne _ hb.2.2.1,ih _ trivial hb.2.2.2⟩
 | cons x a iha=>
  intro b
  induction b with
  | nil=>intro t ha hb;rw[mrg_left];exact⟨ha.1,ha.2.1,ha.2.2.1,iha [] _ ha.2.2.2 trivial⟩
  | cons y b ihb=>
   intro t ha hb
   rcases Nat.lt_trichotomy x.1 y.1 with h|h|h
   ·rw[mrg_lt c x y a b h];exact⟨ha.1,ha.2.1,ha.2.2.1,iha _ _ ha.2.2.2 ⟨h,hb.2⟩⟩
   ·by_cases h0:x.2 - c*y.2=0
    ·rw[mrg_eq0 c x y a b h h0]
     have h1:=ha.1
     exact(iha b (x.1+1) ha.2.2.2 (h▸hb.2.2.2)).mono (by omega)
    ·rw[mrg_eq1 c x y a b h h0]
     exact⟨ha.1,ha.2.1,h0,iha b (x.1+1) ha.2.2.2 (h▸hb.2.2.2)⟩
   ·rw[mrg_gt c x y a b h]
    exact⟨hb.1,hb.2.1,hne _ hb.2.2.1,ihb (y.1+1) ⟨h,ha.2⟩ hb.2.2.2⟩
def spr (f:Nat→Int):Nat→List (Nat×Rat)
 | 0=>[]
 | n+1=>if f n=0 then spr f n else spr f n++[(n,(f n:Rat))]
theorem val_append (a b:List (Nat×Rat)) (q:Nat):val (a++b) q=val a q+val b q:=by
 induction a with
 | nil=>rw[List.nil_append,val];grind
 | cons x a ih=>rw[List.cons_append,val,val,ih];grind
theorem ord_append {n:Nat} {c:Rat} (hn:0<n) (hc:c≠0):∀ (a:List (Nat×Rat)) (t:Nat),Ord (n - 1) t a→t≤n - 1→Ord n t (a++[(n - 1,c)])
 | [],t,_,ht=>⟨ht,by dsimp only;omega,hc,trivial⟩
 | x :: a,t,h,ht=>⟨h.1,by have:=h.2.1;omega,h.2.2.1,ord_append hn hc a _ h.2.2.2 (by have:=h.2.1;omega)⟩
theorem Ord.wide {n n':Nat} (hn:n≤n'):∀ {t:Nat} {r:List (Nat×Rat)},Ord n t r→Ord n' t r
 | _,[],_=>trivial
 | _,_ :: _,h=>⟨h.1,by have:=h.2.1;omega,h.2.2.1,Ord.wide hn h.2.2.2⟩
theorem ord_spr (f:Nat→Int) (n:Nat):Ord n 0 (spr f n):=by
 induction n with
 | zero=>exact trivial
 | succ n ih=>
  rw[spr]
  split
  ·exact ih.wide (Nat.le_succ _)
  ·rename_i h
   exact ord_append (n:=n+1) (Nat.succ_pos _) (by intro h1;exact h (by exact_mod_cast h1)) _ 0 ih (Nat.zero_le _)
theorem val_spr (f:Nat→Int) (n q:Nat):val (spr f n) q=if q<n then(f q:Rat)else 0:=by
 induction n with
 | zero=>rfl
 | succ n ih=>
  rw[spr]
  by_cases h:f n=0
  ·rw[if_pos h,ih]
   by_cases h1:q<n
   ·rw[if_pos h1,if_pos (by omega)]
   ·rw[if_neg h1]
    by_cases h2:q=n
    ·rw[if_pos (by omega),h2,h];rfl
    ·rw[if_neg (by omega)]
  ·rw[if_neg h,val_append,ih,val,val]
   by_cases h2:q=n
   ·rw[if_neg (by omega),if_pos h2,if_pos (by omega),h2];grind
   ·rw[if_neg h2]
    by_cases h1:q<n
    ·rw[if_pos h1,if_pos (by omega)];grind
    ·rw[if_neg h1,if_neg (by omega)];grind
def red (leads:Nat→List (Nat×Rat)):List (Nat×Rat)→List (Nat×Rat)
 | []=>[]
 | x :: r=>if leads x.1=[]then x :: r else mrg x.2 (x :: r) (leads x.1)
def redN (leads:Nat→List (Nat×Rat)):Nat→List (Nat×Rat)→List (Nat×Rat)
 | 0,r=>r
 | k+1,r=>red leads (redN leads k r)
def scl:List (Nat×Rat)→List (Nat×Rat)
 | []=>[]
 | x :: r=>(x :: r).map (fun y=>(y.1,1 / x.2*y.2))
def put (leads:Nat→List (Nat×Rat)) (r:List (Nat×Rat)):Nat→List (Nat×Rat):=
 match r with
 | []=>leads
 | x :: r=>fun j=>if j=x.1 then scl (x :: r)else leads j
def elim (n:Nat) (rows:Nat→Nat→Int):Nat→Nat→List (Nat×Rat)
 | 0=>fun _=>[]
 | i+1=>put (elim n rows i) (redN (elim n rows i) n (spr (rows i) n))
def ldOf (leads:Nat→List (Nat×Rat)) (j:Nat):Bool:=!(leads j).isEmpty
def rowOf (leads:Nat→List (Nat×Rat)) (j q:Nat):Rat:=if ldOf leads j then val (leads j) q else if q=j then 1 else 0
theorem ldOf_false {leads:Nat→List (Nat×Rat)} {j:Nat} (h:leads j=[]):ldOf leads j=false:=by rw[ldOf,h];rfl
theorem ldOf_true {leads:Nat→List (Nat×Rat)} {j:Nat} (h:leads j≠[]):ldOf leads j=true:=by
 rw[ldOf]
 cases e:leads j with
 | nil=>exact absurd e h
 | cons x r=>rfl
def top (n B:Nat):Nat:=nd ((n+1)*(B*cap n B)+cap n B)
structure Good (n B:Nat) (leads:Nat→List (Nat×Rat)):Prop where
 inv:∃ R,Inv B (ldOf leads) (rowOf leads) R
 ord:∀ j,Ord n j (leads j)
 head:∀ j,leads j=[]∨∃ r,leads j=(j,1) :: r
 size:∀ j x,x∈leads j→hq x.2≤top n B
def RowOk (n:Nat) (leads:Nat→List (Nat×Rat)) (v:Nat→Int) (t:Nat) (r:List (Nat×Rat)):Prop:=
 Ord n t r∧∃ u,Sp (ldOf leads) (rowOf leads) t u∧∀ q,(v q:Rat)=val r q+u q
theorem cap_mono {t n B:Nat} (h:t≤n):cap t B≤cap n B:=by
 have h1:2*(t+1)*B+1≤2*(n+1)*B+1:=by
  have:=Nat.mul_le_mul_right B (show 2*(t+1)≤2*(n+1)by omega)
  omega
 exact Nat.le_trans (Nat.pow_le_pow_left h1 t) (Nat.pow_le_pow_right (Nat.succ_pos _) h)
theorem nd_top1 {n B t k:Nat} (ht:t≤n) (hk:k≤(t+1)*(B*cap t B)):nd k≤top n B:=by
 refine nd_mono (Nat.le_trans hk (Nat.le_trans ?_ (Nat.le_add_right _ _)))
 exact Nat.mul_le_mul (by omega) (Nat.mul_le_mul_left _ (cap_mono ht))
theorem nd_top2 {n B t k:Nat} (ht:t≤n) (hk:k≤cap t B):nd k≤top n B:=
 nd_mono (Nat.le_trans hk (Nat.le_trans (cap_mono ht) (Nat.le_add_left _ _)))
theorem rat_of_mul {m N:Int} {r:Rat} (hm:m≠0) (h:(m:Rat)*r=(N:Rat)):r=Rat.divInt N m:=by
 have h1:(m:Rat)≠0:=fun e=>hm (by exact_mod_cast e)
 rw[Rat.divInt_eq_div]
 grind
theorem Ord.top {n:Nat}:∀ {t:Nat} {r:List (Nat×Rat)},Ord n t r→n≤t→r=[]
 | _,[],_,_=>rfl
 | _,x :: r,h,ht=>by have h1:=h.1;have h2:=h.2.1;omega
theorem RowOk.size {n B:Nat} {leads:Nat→List (Nat×Rat)} {v:Nat→Int} {t:Nat} {r:List (Nat×Rat)} (hr:RowOk n leads v t r) (h:Good n B leads) (hv:∀ q,(v q).natAbs≤B):
  (∀ x,x∈r→hq x.2≤top n B)∧∀ x y,x∈r→y∈r→hq (1 / x.2*y.2)≤top n B:=by
 obtain⟨R,hi⟩:=h.inv
 obtain⟨ho,u,hu,he⟩:=hr
 by_cases ht:n≤t
 ·rw[ho.top ht]
  refine⟨fun x hx=>?_,fun x y hx _=>?_⟩ <;> cases hx
 ·obtain⟨m,N,hm,hmc,hN,hE⟩:=hi.height v hv (val r) t u hu he (val_low ho)
  have hmr:(m:Rat)≠0:=fun e=>hm (by exact_mod_cast e)
  refine⟨fun x hx=>?_,fun x y hx hy=>?_⟩
  ·have h1:=hE x.1
   rw[(val_mem ho x hx).1]at h1
   rw[rat_of_mul hm h1]
   exact hq_over hm (nd_top1 (by omega) (hN _)) (nd_top2 (by omega) hmc)
  ·have h1:=hE x.1
   have h2:=hE y.1
   obtain⟨e1,_,_,h4⟩:=val_mem ho x hx
   rw[e1]at h1
   rw[(val_mem ho y hy).1]at h2
   have h3:N x.1≠0:=fun e=>by
    rw[e]at h1
    rcases Rat.mul_eq_zero.1 (h1.trans rfl)with h5|h5
    ·exact hmr h5
    ·exact h4 h5
   have h6:(N x.1:Rat)*(1 / x.2*y.2)=(N y.1:Rat):=by rw[← h1,← h2];grind
   rw[rat_of_mul h3 h6]
   exact hq_over h3 (nd_top1 (by omega) (hN _)) (nd_top1 (by omega) (hN _))
theorem RowOk.first (n:Nat) (leads:Nat→List (Nat×Rat)) (v:Nat→Int) (hv:∀ q,n≤q→v q=0):RowOk n leads v 0 (spr v n):=by
 refine⟨ord_spr v n,fun _=>0,Sp.nil _ _ _,fun q=>?_⟩
 rw[val_spr]
 by_cases h:q<n
 ·rw[if_pos h];grind
 ·rw[if_neg h,hv q (by omega)]
  have:((0:Int):Rat)=0:=rfl
  rw[this];grind
theorem RowOk.step {n B:Nat} {leads:Nat→List (Nat×Rat)} {v:Nat→Int} {t:Nat} {x:Nat×Rat} {r:List (Nat×Rat)} (hr:RowOk n leads v t (x :: r)) (h:Good n B leads) (hl:leads x.1≠[]):
  RowOk n leads v (x.1+1) (red leads (x :: r))∧red leads (x :: r)=mrg x.2 (x :: r) (leads x.1)∧∃ b,leads x.1=(x.1,1) :: b∧mrg x.2 (x :: r) (leads x.1)=mrg x.2 r b:=by
 obtain⟨ho,u,hu,he⟩:=hr
 obtain⟨b,hb⟩:=(h.head x.1).resolve_left hl
 have e1:red leads (x :: r)=mrg x.2 (x :: r) (leads x.1):=by rw[red,if_neg hl]
 have e2:mrg x.2 (x :: r) (leads x.1)=mrg x.2 r b:=by rw[hb];exact mrg_eq0 _ _ _ _ _ rfl (by grind)
 have ho2:=h.ord x.1
 rw[hb]at ho2
 have h1:=ho.1
 refine⟨⟨?_,fun q=>u q+x.2*rowOf leads x.1 q,(hu.mono (by omega)).combine _ (Sp.lead (Nat.lt_succ_self _) (ldOf_true hl)),fun q=>?_⟩,e1,b,hb,e2⟩
 ·rw[e1,e2]
  exact ord_mrg ho.2.2.1 _ _ _ ho.2.2.2 ho2.2.2.2
 ·have e3:rowOf leads x.1 q=val (leads x.1) q:=by rw[rowOf,ldOf_true hl];rfl
  show(v q:Rat)=val (red leads (x :: r)) q+(u q+x.2*rowOf leads x.1 q)
  rw[e1,val_mrg,he,e3]
  grind
theorem red_still {leads:Nat→List (Nat×Rat)} {x:Nat×Rat} {r:List (Nat×Rat)} (hl:leads x.1=[]):red leads (x :: r)=x :: r:=by rw[red,if_pos hl]
theorem RowOk.steps {n B:Nat} {leads:Nat→List (Nat×Rat)} {v:Nat→Int} {r:List (Nat×Rat)} (hr:RowOk n leads v 0 r) (h:Good n B leads) (k:Nat):
  ∃ t,RowOk n leads v t (redN leads k r)∧(k≤t∨red leads (redN leads k r)=redN leads k r):=by
 induction k with
 | zero=>exact⟨0,hr,.inl (Nat.le_refl _)⟩
 | succ k ih=>
  obtain⟨t,h1,h2⟩:=ih
  rw[redN]
  rcases h2 with h2|h2
  ·cases e:redN leads k r with
   | nil=>exact⟨t,by rw[e]at h1;exact h1,.inr rfl⟩
   | cons x r'=>
    rw[e]at h1
    by_cases hl:leads x.1=[]
    ·rw[red_still hl]
     exact⟨t,h1,.inr (red_still hl)⟩
    ·have h3:=h1.1.1
     exact⟨x.1+1,(h1.step h hl).1,.inl (by omega)⟩
  ·rw[h2]
   exact⟨t,h1,.inr h2⟩
theorem redN_still {leads:Nat→List (Nat×Rat)} {r:List (Nat×Rat)} {k:Nat} (h:red leads (redN leads k r)=redN leads k r) (m:Nat) (hm:k≤m):redN leads m r=redN leads k r:=by
 induction m with
 | zero=>obtain rfl:k=0:=by omega
         rfl
 | succ m ih=>
  by_cases e:k=m+1
  ·rw[e]
  ·rw[redN,ih (by omega),h]
theorem RowOk.end_still {n B:Nat} {leads:Nat→List (Nat×Rat)} {v:Nat→Int} {r:List (Nat×Rat)} (hr:RowOk n leads v 0 r) (h:Good n B leads):red leads (redN leads n r)=redN leads n r:=by
 obtain⟨t,h1,h2⟩:=hr.steps h n
 rcases h2 with h2|h2
 ·rw[h1.1.top h2];rfl
 ·exact h2
theorem Sp.turn {ld ld':Nat→Bool} {L L':Nat→Nat→Rat} {t:Nat} {u:Nat→Rat} (hu:Sp ld L t u) (h:∀ j,j<t→ld j=true→ld' j=true∧L' j=L j):Sp ld' L' t u:=by
 obtain⟨z,hz,ez⟩:=hu
 refine⟨z,fun j hj hn=>?_,fun q=>?_⟩
 ·cases e:ld j with
  | false=>exact hz j hj e
  | true=>rw[(h j hj e).1]at hn;cases hn
 ·rw[ez]
  refine sumQ_congr fun j hj=>?_
  cases e:ld j with
  | false=>rw[hz j hj e];grind
  | true=>rw[(h j hj e).2]
theorem val_scl (x:Nat×Rat) (r:List (Nat×Rat)) (q:Nat):val (scl (x :: r)) q=1 / x.2*val (x :: r) q:=by
 rw[scl]
 generalize x :: r=l
 induction l with
 | nil=>rw[List.map_nil,val];grind
 | cons y l ih=>
  rw[List.map_cons,val,val,ih]
  by_cases h:q=y.1
  ·simp only[if_pos h];grind
  ·simp only[if_neg h];grind
theorem ord_scl {n:Nat} {c:Rat} (hc:c≠0):∀ {t:Nat} {l:List (Nat×Rat)},Ord n t l→Ord n t (l.map (fun y=>(y.1,1 / c*y.2)))
 | _,[],_=>trivial
 | _,y :: l,h=>⟨h.1,h.2.1,fun e=>by
   rcases Rat.mul_eq_zero.1 e with h1|h1
   ·exact hc (by grind)
   ·exact h.2.2.1 h1,ord_scl hc h.2.2.2⟩
theorem Good.put {n B:Nat} {leads:Nat→List (Nat×Rat)} {v:Nat→Int} {t:Nat} {r:List (Nat×Rat)} (h:Good n B leads) (hr:RowOk n leads v t r) (hv:∀ q,(v q).natAbs≤B) (hs:red leads r=r):Good n B (Eli.put leads r):=by
 cases r with
 | nil=>exact h
 | cons x r=>
  have hno:leads x.1=[]:=by
   refine Classical.byContradiction fun hl=>?_
   obtain⟨⟨ho,_⟩,_⟩:=hr.step h hl
   rw[hs]at ho
   have:=ho.1
   omega
  obtain⟨_,hsz⟩:=hr.size h hv
  obtain⟨ho,u,hu,he⟩:=hr
  obtain⟨R,hi⟩:=h.inv
  have hx:=ho.2.2.1
  obtain⟨L',hL'⟩:∃ L',Eli.put leads (x :: r)=L':=⟨_,rfl⟩
  have eP:∀ j,L' j=if j=x.1 then scl (x :: r)else leads j:=fun j=>by rw[← hL'];rfl
  have e1:L' x.1=scl (x :: r):=by rw[eP,if_pos rfl]
  have e2:∀ j,j≠x.1→L' j=leads j:=fun j hj=>by rw[eP,if_neg hj]
  have e3:scl (x :: r)≠[]:=by rw[scl];intro e;cases e
  have hld:ldOf L' x.1=true:=ldOf_true (by rw[e1];exact e3)
  have hld2:∀ j,j≠x.1→ldOf L' j=ldOf leads j:=fun j hj=>by rw[ldOf,e2 j hj];rfl
  have hro:∀ j,j≠x.1→rowOf L' j=rowOf leads j:=fun j hj=>by funext q;rw[rowOf,rowOf,hld2 j hj,e2 j hj]
  have hrx:∀ q,rowOf L' x.1 q=1 / x.2*val (x :: r) q:=fun q=>by rw[rowOf,hld,if_pos rfl,e1,val_scl]
  have hkeep:∀ t u,Sp (ldOf leads) (rowOf leads) t u→Sp (ldOf L') (rowOf L') t u:=fun t u hu=>hu.turn fun j _ hl=>by
   have hne:j≠x.1:=fun e=>by rw[e,ldOf_false hno]at hl;cases hl
   exact⟨by rw[hld2 j hne];exact hl,hro j hne⟩
  have hox:Ord n x.1 (x :: r):=⟨Nat.le_refl _,ho.2⟩
  rw[hL']
  refine⟨⟨fun j=>if j=x.1 then v else R j,?_⟩,fun j=>?_,fun j=>?_,fun j y hy=>?_⟩
  ·constructor
   ·intro j q hq
    by_cases e:j=x.1
    ·subst e;rw[hrx,val_low hox q hq];grind
    ·rw[hro j e];exact hi.low j q hq
   ·intro j
    by_cases e:j=x.1
    ·subst e;rw[hrx,(val_mem hox x (List.mem_cons_self ..)).1];grind
    ·rw[hro j e];exact hi.one j
   ·intro j hj q
    have e:j≠x.1:=fun e=>by rw[e,hld]at hj;cases hj
    rw[hro j e];exact hi.free j (by rw[← hld2 j e];exact hj) q
   ·intro j hj q
    have e:j≠x.1:=fun e=>by rw[e,hld]at hj;cases hj
    simp only[if_neg e]
    exact hi.rfree j (by rw[← hld2 j e];exact hj) q
   ·intro p hp
    by_cases e:p=x.1
    ·subst e
     refine⟨x.2,hx,u,(hkeep _ _ (hu.mono ho.1)),fun q=>?_⟩
     rw[if_pos rfl,he,hrx]
     grind
    ·obtain⟨s,h0,u2,hu2,he2⟩:=hi.got p (by rw[← hld2 p e];exact hp)
     refine⟨s,h0,u2,hkeep _ _ hu2,fun q=>?_⟩
     rw[if_neg e,hro p e]
     exact he2 q
   ·intro p q
    show((if p=x.1 then v else R p) q).natAbs≤B
    split
    ·exact hv q
    ·exact hi.bound p q
  ·by_cases e:j=x.1
   ·subst e;rw[e1,scl];exact ord_scl hx hox
   ·rw[e2 j e];exact h.ord j
  ·by_cases e:j=x.1
   ·subst e
    refine .inr ⟨r.map (fun y=>(y.1,1 / x.2*y.2)),?_⟩
    rw[e1,scl,List.map_cons]
    have:1 / x.2*x.2=1:=by grind
    rw[this]
   ·rw[e2 j e];exact h.head j
  ·by_cases e:j=x.1
   ·subst e
    rw[e1,scl]at hy
    obtain⟨z,hz,rfl⟩:=List.mem_map.1 hy
    exact hsz x z (List.mem_cons_self ..) hz
   ·rw[e2 j e]at hy;exact h.size j y hy
theorem Good.nil {n B:Nat} (hB:1≤B):Good n B (fun _=>[]):=
 ⟨⟨fun j q=>if q=j then 1 else 0,by
  have hl:∀ j,ldOf (fun _=>[]) j=false:=fun j=>rfl
  have hr:∀ j q,rowOf (fun _=>[]) j q=if q=j then 1 else 0:=fun j q=>rfl
  constructor
  ·intro j q hq;rw[hr,if_neg (by omega)]
  ·intro j;rw[hr,if_pos rfl]
  ·intro j _ q;rw[hr]
  ·intro j _ q;rfl
  ·intro p hp;rw[hl]at hp;cases hp
  ·intro p q;split
   ·exact hB
   ·exact Nat.zero_le _⟩,fun _=>trivial,fun _=>.inl rfl,fun _ _ hx=>by cases hx⟩
theorem Good.elim {n B:Nat} {rows:Nat→Nat→Int} (hB:1≤B) (hb:∀ i q,(rows i q).natAbs≤B) (h0:∀ i q,n≤q→rows i q=0) (k:Nat):Good n B (elim n rows k):=by
 induction k with
 | zero=>exact Good.nil hB
 | succ k ih=>
  have hr:=RowOk.first n (Eli.elim n rows k) (rows k) (h0 k)
  obtain⟨t,h1,_⟩:=hr.steps ih n
  exact ih.put h1 (hb k) (hr.end_still ih)
end Eli
end Go.Proofs.YtijgdhijdfgpfaaGreatDoor
