/- The span of the rows of an elimination, and the classes of vectors. No program in sight. -/
import Derived.Test.YthikonjlgljikaaGreatDoorR29
import Derived.Test.YthikonjlgljikaaGreatDoorR42
import Derived.Test.YthikonjlgljikaaGreatDoorR40
set_option linter.unusedSimpArgs false
set_option maxRecDepth 100000
set_option maxHeartbeats 8000000
namespace Go.Proofs.YthikonjlgljikaaGreatDoor
namespace Eli
open Sie
def RSp (rows:Nat→Nat→Int) (k:Nat) (u:Nat→Rat):Prop:=∃ z:Nat→Rat,∀ q,u q=sumQ (fun i=>z i*(rows i q:Rat)) k
theorem RSp.nil (rows:Nat→Nat→Int) (k:Nat):RSp rows k (fun _=>0):=⟨fun _=>0,fun q=>(sumQ_zero (fun i _=>by grind)).symm⟩
theorem RSp.combine {rows:Nat→Nat→Int} {k:Nat} {u v:Nat→Rat} (hu:RSp rows k u) (c:Rat) (hv:RSp rows k v):RSp rows k (fun q=>u q+c*v q):=by
 obtain⟨y,ey⟩:=hu
 obtain⟨z,ez⟩:=hv
 refine⟨fun j=>y j+c*z j,fun q=>?_⟩
 dsimp only
 rw[ey,ez,← sumQ_mul,← sumQ_add]
 exact sumQ_congr fun i _=>by grind
theorem RSp.congr {rows:Nat→Nat→Int} {k:Nat} {u v:Nat→Rat} (hu:RSp rows k u) (h:∀ q,v q=u q):RSp rows k v:=by
 obtain⟨y,ey⟩:=hu
 exact⟨y,fun q=>by rw[h,ey]⟩
theorem RSp.mono {rows:Nat→Nat→Int} {k k':Nat} {u:Nat→Rat} (hu:RSp rows k u) (h:k≤k'):RSp rows k' u:=by
 obtain⟨y,ey⟩:=hu
 refine⟨fun j=>if j<k then y j else 0,fun q=>?_⟩
 rw[ey,sumQ_tail h (fun i h1 _=>by simp only[if_neg (Nat.not_lt.2 h1)];grind)]
 exact sumQ_congr fun i hi=>by simp only[if_pos hi]
theorem RSp.row {rows:Nat→Nat→Int} {k i:Nat} (hi:i<k):RSp rows k (fun q=>(rows i q:Rat)):=by
 refine⟨fun j=>if j=i then 1 else 0,fun q=>?_⟩
 rw[sumQ_single hi (fun j _ hne=>by simp only[if_neg hne];grind)]
 simp
theorem RSp.sum {rows:Nat→Nat→Int} {k:Nat} {L:Nat→Nat→Rat} {z:Nat→Rat}:∀ t,(∀ j,j<t→z j=0∨RSp rows k (L j))→RSp rows k (fun q=>sumQ (fun j=>z j*L j q) t)
 | 0,_=>(RSp.nil rows k).congr (fun _=>rfl)
 | t+1,h=>by
  have h1:=RSp.sum t (fun j hj=>h j (by omega)) (rows:=rows) (k:=k) (L:=L) (z:=z)
  rcases h t (Nat.lt_succ_self _)with h2|h2
  ·exact h1.congr (fun q=>by rw[sumQ,h2];grind)
  ·exact(h1.combine (z t) h2).congr (fun q=>by rw[sumQ])
theorem RSp.of_sp {rows:Nat→Nat→Int} {k t:Nat} {ld:Nat→Bool} {L:Nat→Nat→Rat} {u:Nat→Rat} (hu:Sp ld L t u) (h:∀ j,j<t→ld j=true→RSp rows k (L j)):RSp rows k u:=by
 obtain⟨z,hz,ez⟩:=hu
 refine(RSp.sum (L:=L) (z:=z) t (fun j hj=>?_)).congr ez
 cases hl:ld j with
 | false=>exact .inl (hz j hj hl)
 | true=>exact .inr (h j hj hl)
theorem Sp.sum {ld:Nat→Bool} {L:Nat→Nat→Rat} {t:Nat} {R:Nat→Nat→Rat} {z:Nat→Rat}:∀ k,(∀ j,j<k→z j=0∨Sp ld L t (R j))→Sp ld L t (fun q=>sumQ (fun j=>z j*R j q) k)
 | 0,_=>(Sp.nil ld L t).congr (fun _=>rfl)
 | k+1,h=>by
  have h1:=Sp.sum k (fun j hj=>h j (by omega)) (ld:=ld) (L:=L) (t:=t) (R:=R) (z:=z)
  rcases h k (Nat.lt_succ_self _)with h2|h2
  ·exact h1.congr (fun q=>by rw[sumQ,h2];grind)
  ·exact(h1.combine (z k) h2).congr (fun q=>by rw[sumQ])
theorem RSp.sp {rows:Nat→Nat→Int} {k t:Nat} {ld:Nat→Bool} {L:Nat→Nat→Rat} {u:Nat→Rat} (hu:RSp rows k u) (h:∀ i,i<k→Sp ld L t (fun q=>(rows i q:Rat))):Sp ld L t u:=by
 obtain⟨z,ez⟩:=hu
 exact(Sp.sum (R:=fun i q=>(rows i q:Rat)) (z:=z) k (fun j hj=>.inr (h j hj))).congr ez
theorem Sp.trim {ld:Nat→Bool} {L:Nat→Nat→Rat} {t n:Nat} {u:Nat→Rat} (hu:Sp ld L t u) (h:∀ j,n≤j→ld j=false):Sp ld L n u:=by
 by_cases ht:t≤n
 ·exact hu.mono ht
 ·obtain⟨z,hz,ez⟩:=hu
  refine⟨z,fun j hj hl=>hz j (by omega) hl,fun q=>?_⟩
  rw[ez]
  exact sumQ_tail (by omega) (fun i h1 h2=>by rw[hz i h2 (h i h1)];grind)
theorem Good.high {n B:Nat} {leads:Nat→List (Nat×Rat)} (h:Good n B leads) (j:Nat) (hj:n≤j):ldOf leads j=false:=ldOf_false ((h.ord j).top hj)
theorem put_facts {leads:Nat→List (Nat×Rat)} {x:Nat×Rat} {r:List (Nat×Rat)} (hno:leads x.1=[]):
  ldOf (Eli.put leads (x :: r)) x.1=true∧(∀ q,rowOf (Eli.put leads (x :: r)) x.1 q=1 / x.2*val (x :: r) q) ∧
  (∀ j,j≠x.1→ldOf (Eli.put leads (x :: r)) j=ldOf leads j∧rowOf (Eli.put leads (x :: r)) j=rowOf leads j) ∧
  ∀ t u,Sp (ldOf leads) (rowOf leads) t u→Sp (ldOf (Eli.put leads (x :: r))) (rowOf (Eli.put leads (x :: r))) t u:=by
 obtain⟨L',hL'⟩:∃ L',Eli.put leads (x :: r)=L':=⟨_,rfl⟩
 have e1:L' x.1=scl (x :: r):=by rw[← hL'];exact if_pos rfl
 have e2:∀ j,j≠x.1→L' j=leads j:=fun j hj=>by rw[← hL'];exact if_neg hj
 have e3:scl (x :: r)≠[]:=by rw[scl,List.map_cons];exact List.cons_ne_nil _ _
 have hld:ldOf L' x.1=true:=ldOf_true (by rw[e1];exact e3)
 have hld2:∀ j,j≠x.1→ldOf L' j=ldOf leads j:=fun j hj=>by rw[ldOf,e2 j hj];rfl
 have hro:∀ j,j≠x.1→rowOf L' j=rowOf leads j:=fun j hj=>by funext q;rw[rowOf,rowOf,hld2 j hj,e2 j hj]
 have hrx:∀ q,rowOf L' x.1 q=1 / x.2*val (x :: r) q:=fun q=>by rw[rowOf,hld,if_pos rfl,e1,val_scl]
 rw[hL']
 refine⟨hld,hrx,fun j hj=>⟨hld2 j hj,hro j hj⟩,fun t u hu=>hu.turn fun j _ hl=>?_⟩
 have hne:j≠x.1:=fun e=>by rw[e,ldOf_false hno]at hl;cases hl
 exact⟨by rw[hld2 j hne];exact hl,hro j hne⟩
theorem put_new {n B:Nat} {leads:Nat→List (Nat×Rat)} {v:Nat→Int} {t:Nat} {x:Nat×Rat} {r:List (Nat×Rat)} (h:Good n B leads) (hr:RowOk n leads v t (x :: r)) (hs:red leads (x :: r)=x :: r):leads x.1=[]:=by
 refine Classical.byContradiction fun hl=>?_
 obtain⟨⟨ho,_⟩,_⟩:=hr.step h hl
 rw[hs]at ho
 have:=ho.1
 omega
theorem elim_span {n B:Nat} {rows:Nat→Nat→Int} (hB:1≤B) (hb:∀ i q,(rows i q).natAbs≤B) (h0:∀ i q,n≤q→rows i q=0) (k:Nat):
  (∀ i,i<k→Sp (ldOf (elim n rows k)) (rowOf (elim n rows k)) n (fun q=>(rows i q:Rat)))∧∀ j,ldOf (elim n rows k) j=true→RSp rows k (rowOf (elim n rows k) j):=by
 induction k with
 | zero=>exact⟨fun i hi=>absurd hi (Nat.not_lt_zero _),fun j hj=>by cases hj⟩
 | succ k ih=>
  obtain⟨ih1,ih2⟩:=ih
  have hg:=Good.elim hB hb h0 k
  have hr:=RowOk.first n (Eli.elim n rows k) (rows k) (h0 k)
  obtain⟨t,h1,_⟩:=hr.steps hg n
  have hs:=hr.end_still hg
  rw[show elim n rows (k+1)=Eli.put (elim n rows k) (redN (elim n rows k) n (spr (rows k) n))from rfl]
  generalize redN (elim n rows k) n (spr (rows k) n)=r at h1 hs ⊢
  generalize elim n rows k=leads at ih1 ih2 hg h1 hs ⊢
  obtain⟨ho,u,hu,he⟩:=h1
  have hun:=hu.trim hg.high
  have hur:RSp rows k u:=RSp.of_sp hu (fun j _ hj=>ih2 j hj)
  cases r with
  | nil=>
   refine⟨fun i hi=>?_,fun j hj=>(ih2 j hj).mono (Nat.le_succ _)⟩
   by_cases e:i=k
   ·subst e
    exact hun.congr (fun q=>by rw[he,val_nil];grind)
   ·exact ih1 i (by omega)
  | cons x r=>
   have hno:=put_new hg ⟨ho,u,hu,he⟩ hs
   obtain⟨f1,f2,f3,f4⟩:=put_facts (r:=r) hno
   have hx:=ho.2.2.1
   have hxn:=ho.2.1
   refine⟨fun i hi=>?_,fun j hj=>?_⟩
   ·by_cases e:i=k
    ·subst e
     refine((f4 _ _ hun).combine x.2 (Sp.lead hxn f1)).congr (fun q=>?_)
     rw[he,f2]
     grind
    ·exact f4 _ _ (ih1 i (by omega))
   ·by_cases e:j=x.1
    ·subst e
     have h2:RSp rows (k+1) (fun q=>(rows k q:Rat)+(-1)*u q):=(RSp.row (Nat.lt_succ_self _)).combine (-1) (hur.mono (Nat.le_succ _))
     refine((RSp.nil rows (k+1)).combine (1 / x.2) h2).congr (fun q=>?_)
     rw[f2,he]
     grind
    ·obtain⟨g1,g2⟩:=f3 j e
     rw[g1]at hj
     rw[g2]
     exact(ih2 j hj).mono (Nat.le_succ _)
theorem Inv.unique {B:Nat} {ld:Nat→Bool} {L:Nat→Nat→Rat} {R:Nat→Nat→Int} (h:Inv B ld L R) {n:Nat} {x y u v:Nat→Rat} (hu:Sp ld L n u) (hv:Sp ld L n v)
  (he:∀ q,q<n→sumQ (fun f=>(if ld f then 0 else x f)*L f q) n+u q=sumQ (fun f=>(if ld f then 0 else y f)*L f q) n+v q):∀ f,f<n→ld f=false→x f=y f:=by
 obtain⟨a,ha,ea⟩:=hu
 obtain⟨b,hb,eb⟩:=hv
 have h1:=h.tri (t:=n) (z:=fun j=>((if ld j then 0 else x j)+a j)+(-1)*((if ld j then 0 else y j)+b j)) (fun q hq=>by
  have e:=he q hq
  rw[ea,eb]at e
  have e2:sumQ (fun j=>(((if ld j then 0 else x j)+a j)+(-1)*((if ld j then 0 else y j)+b j))*L j q) n
    =(sumQ (fun f=>(if ld f then 0 else x f)*L f q) n+sumQ (fun j=>a j*L j q) n)+(-1)*(sumQ (fun f=>(if ld f then 0 else y f)*L f q) n+sumQ (fun j=>b j*L j q) n):=by
   rw[← sumQ_add,← sumQ_add,← sumQ_mul,← sumQ_add]
   exact sumQ_congr fun i _=>by grind
  rw[e2,e]
  grind)
 intro f hf hl
 have h2:=h1 f hf
 rw[ha f hf hl,hb f hf hl,hl]at h2
 simp only[Bool.false_eq_true,if_false]at h2
 grind
end Eli
namespace Eli
open Sie
structure GjAt (n B:Nat) (rows:Nat→Nat→Int) (m c:Nat) (ld:Nat→Bool) (L:Nat→Nat→Rat) (R:Nat→Nat→Int) (O:Nat→Nat→Rat) (A:(Nat→Rat)→Prop):Prop where
 inv:Inv B ld L R
 lt:∀ p,ld p=true→p<c
 le:c≤n
 sp:∀ p,ld p=true→RSp rows m (L p)
 out:∀ p,ld p=true→Sp ld L c (O p)∧O p p=1∧∀ p',ld p'=true→p'≠p→O p p'=0
 rest:∀ a,A a→(∀ q,q<c→a q=0)∧∃ i,i<m∧∃ u,Sp ld L c u∧∀ q,(rows i q:Rat)=a q+u q
 all:∀ i,i<m→∃ a u,(A a∨∀ q,a q=0)∧Sp ld L c u∧∀ q,(rows i q:Rat)=a q+u q
def unitQ (j q:Nat):Rat:=if q=j then 1 else 0
def unitZ (j q:Nat):Int:=if q=j then 1 else 0
theorem GjAt.start {n B m:Nat} {rows:Nat→Nat→Int} (hB:1≤B):GjAt n B rows m 0 (fun _=>false) unitQ unitZ (fun _ _=>0) (fun a=>∃ i,i<m∧∀ q,a q=(rows i q:Rat)) where
 inv:=by
  constructor
  ·intro j q hq;rw[unitQ,if_neg (by omega)]
  ·intro j;rw[unitQ,if_pos rfl]
  ·intro j _ q;rfl
  ·intro j _ q;rfl
  ·intro p hp;cases hp
  ·intro p q;rw[unitZ];split
   ·exact hB
   ·exact Nat.zero_le _
 lt:=fun p hp=>by cases hp
 le:=Nat.zero_le _
 sp:=fun p hp=>by cases hp
 out:=fun p hp=>by cases hp
 rest:=fun a ⟨i,hi,ha⟩=>⟨fun q hq=>absurd hq (Nat.not_lt_zero _),i,hi,fun _=>0,Sp.nil _ _ _,fun q=>by rw[ha];grind⟩
 all:=fun i hi=>⟨fun q=>(rows i q:Rat),fun _=>0,.inl ⟨i,hi,fun _=>rfl⟩,Sp.nil _ _ _,fun q=>by grind⟩
section
variable {n B m c:Nat} {rows:Nat→Nat→Int} {ld:Nat→Bool} {L:Nat→Nat→Rat} {R:Nat→Nat→Int} {O:Nat→Nat→Rat} {A:(Nat→Rat)→Prop}
theorem GjAt.skip (h:GjAt n B rows m c ld L R O A) (hc:c<n) (h0:∀ a,A a→a c=0):GjAt n B rows m (c+1) ld L R O A where
 inv:=h.inv
 lt:=fun p hp=>Nat.lt_succ_of_lt (h.lt p hp)
 le:=hc
 sp:=h.sp
 out:=fun p hp=>⟨(h.out p hp).1.mono (Nat.le_succ _),(h.out p hp).2⟩
 rest:=fun a ha=>by
  obtain⟨h1,i,hi,u,hu,he⟩:=h.rest a ha
  refine⟨fun q hq=>?_,i,hi,u,hu.mono (Nat.le_succ _),he⟩
  by_cases e:q=c
  ·rw[e];exact h0 a ha
  ·exact h1 q (by omega)
 all:=fun i hi=>by
  obtain⟨a,u,h1,h2,h3⟩:=h.all i hi
  exact⟨a,u,h1,h2.mono (Nat.le_succ _),h3⟩
theorem GjAt.same_rest (h:GjAt n B rows m c ld L R O A) {A':(Nat→Rat)→Prop} (h1:∀ a,A' a→∃ b,A b∧∀ q,a q=b q) (h2:∀ a,A a→∃ b,A' b∧∀ q,b q=a q):GjAt n B rows m c ld L R O A' where
 inv:=h.inv
 lt:=h.lt
 le:=h.le
 sp:=h.sp
 out:=h.out
 rest:=fun a ha=>by
  obtain⟨b,hb,e⟩:=h1 a ha
  obtain⟨h3,i,hi,u,hu,he⟩:=h.rest b hb
  exact⟨fun q hq=>by rw[e];exact h3 q hq,i,hi,u,hu,fun q=>by rw[e];exact he q⟩
 all:=fun i hi=>by
  obtain⟨a,u,h3,h4,h5⟩:=h.all i hi
  rcases h3 with h3|h3
  ·obtain⟨b,hb,e⟩:=h2 a h3
   exact⟨b,u,.inl hb,h4,fun q=>by rw[e];exact h5 q⟩
  ·exact⟨a,u,.inr h3,h4,h5⟩
theorem GjAt.rest_sp (h:GjAt n B rows m c ld L R O A) {u:Nat→Rat} (hu:Sp ld L c u):RSp rows m u:=RSp.of_sp hu (fun j _ hj=>h.sp j hj)
theorem GjAt.pivot (h:GjAt n B rows m c ld L R O A) (hb:∀ i q,(rows i q).natAbs≤B) (hc:c<n) {r:Nat→Rat} (hr:A r) (h0:r c≠0) {A':(Nat→Rat)→Prop} {O':Nat→Nat→Rat} {ld':Nat→Bool}
  (hl':∀ j,ld' j=(ld j||decide (j=c)))
  (h1:∀ a',A' a'→∃ a,A a∧∀ q,a' q=a q+-(a c)*(1 / r c*r q)) (h2:∀ a,A a→(∀ q,a q=r q)∨∃ a',A' a'∧∀ q,a' q=a q+-(a c)*(1 / r c*r q))
  (hO:∀ q,O' c q=1 / r c*r q) (hO':∀ p,ld p=true→∀ q,O' p q=O p q+-(O p c)*(1 / r c*r q)):
  ∃ L' R',GjAt n B rows m (c+1) ld' L' R' O' A':=by
 obtain⟨hz,i0,hi0,u0,hu0,he0⟩:=h.rest r hr
 have hcl:ld c=false:=by
  cases e:ld c with
  | false=>rfl
  | true=>exact absurd (h.lt c e) (Nat.lt_irrefl _)
 have hlc:ld' c=true:=by rw[hl',decide_eq_true rfl,Bool.or_true]
 have hln:∀ j,j≠c→ld' j=ld j:=fun j hj=>by rw[hl',decide_eq_false hj,Bool.or_false]
 have hlk:∀ j,ld j=true→ld' j=true:=fun j hj=>by rw[hl',hj,Bool.true_or]
 obtain⟨pv,hpv⟩:∃ pv:Nat→Rat,∀ q,pv q=1 / r c*r q:=⟨fun q=>1 / r c*r q,fun _=>rfl⟩
 have hp0:∀ q,q<c→pv q=0:=fun q hq=>by rw[hpv,hz q hq];grind
 have hp1:pv c=1:=by rw[hpv];grind
 have hpr:∀ q,r q=r c*pv q:=fun q=>by rw[hpv];grind
 obtain⟨L',hL'⟩:∃ L':Nat→Nat→Rat,L'=fun j=>if j=c then pv else L j:=⟨_,rfl⟩
 have hLc:L' c=pv:=by rw[hL'];exact if_pos rfl
 have hLn:∀ j,j≠c→L' j=L j:=fun j hj=>by rw[hL'];exact if_neg hj
 have hturn:∀ t u,Sp ld L t u→Sp ld' L' t u:=fun t u hu=>hu.turn fun j _ hj=>by
  have hne:j≠c:=fun e=>by rw[e,hcl]at hj;cases hj
  exact⟨hlk j hj,hLn j hne⟩
 have hup:∀ u,Sp ld L c u→Sp ld' L' (c+1) u:=fun u hu=>(hturn _ _ hu).mono (Nat.le_succ _)
 have hlead:Sp ld' L' (c+1) pv:=hLc▸Sp.lead (Nat.lt_succ_self _) hlc
 have hpsp:RSp rows m pv:=by
  have h3:RSp rows m (fun q=>(rows i0 q:Rat)+(-1)*u0 q):=(RSp.row hi0).combine (-1) (h.rest_sp hu0)
  exact((RSp.nil rows m).combine (1 / r c) h3).congr (fun q=>by rw[hpv,he0];grind)
 refine⟨L',fun j=>if j=c then rows i0 else R j,?_⟩
 constructor
 ·constructor
  ·intro j q hq
   by_cases e:j=c
   ·rw[e,hLc];exact hp0 q (by omega)
   ·rw[hLn j e];exact h.inv.low j q hq
  ·intro j
   by_cases e:j=c
   ·rw[e,hLc];exact hp1
   ·rw[hLn j e];exact h.inv.one j
  ·intro j hj q
   have e:j≠c:=fun e=>by rw[e,hlc]at hj;cases hj
   rw[hLn j e]
   exact h.inv.free j (by rw[← hln j e];exact hj) q
  ·intro j hj q
   have e:j≠c:=fun e=>by rw[e,hlc]at hj;cases hj
   simp only[if_neg e]
   exact h.inv.rfree j (by rw[← hln j e];exact hj) q
  ·intro p hp
   by_cases e:p=c
   ·subst e
    refine⟨r p,h0,u0,hturn _ _ hu0,fun q=>?_⟩
    rw[if_pos rfl,he0,hLc,← hpr]
   ·obtain⟨s,h3,u,hu,he⟩:=h.inv.got p (by rw[← hln p e];exact hp)
    refine⟨s,h3,u,hturn _ _ hu,fun q=>?_⟩
    rw[if_neg e,hLn p e]
    exact he q
  ·intro p q
   show((if p=c then rows i0 else R p) q).natAbs≤B
   split
   ·exact hb i0 q
   ·exact h.inv.bound p q
 ·intro p hp
  by_cases e:p=c
  ·omega
  ·exact Nat.lt_succ_of_lt (h.lt p (by rw[← hln p e];exact hp))
 ·exact hc
 ·intro p hp
  by_cases e:p=c
  ·rw[e,hLc];exact hpsp
  ·rw[hLn p e];exact h.sp p (by rw[← hln p e];exact hp)
 ·intro p hp
  by_cases e:p=c
  ·rw[e]
   refine⟨hlead.congr (fun q=>by rw[hO,hpv]),by rw[hO,← hpv];exact hp1,fun p' hp' hne=>?_⟩
   rw[hO,← hpv]
   exact hp0 p' (h.lt p' (by rw[← hln p' hne];exact hp'))
  ·have hp2:ld p=true:=by rw[← hln p e];exact hp
   obtain⟨h3,h4,h5⟩:=h.out p hp2
   have hlt:=h.lt p hp2
   refine⟨((hup _ h3).combine (-(O p c)) hlead).congr (fun q=>by rw[hO' p hp2,hpv]),?_,fun p' hp' hne=>?_⟩
   ·rw[hO' p hp2,← hpv,hp0 p hlt,h4];grind
   ·rw[hO' p hp2,← hpv]
    by_cases e2:p'=c
    ·rw[e2,hp1];grind
    ·have hp3:ld p'=true:=by rw[← hln p' e2];exact hp'
     rw[hp0 p' (h.lt p' hp3),h5 p' hp3 hne];grind
 ·intro a' ha'
  obtain⟨a,ha,ea⟩:=h1 a' ha'
  obtain⟨h3,i,hi,u,hu,he⟩:=h.rest a ha
  refine⟨fun q hq=>?_,i,hi,_,(hup _ hu).combine (a c) hlead,fun q=>?_⟩
  ·rw[ea,← hpv]
   by_cases e:q=c
   ·rw[e,hp1];grind
   ·rw[hp0 q (by omega),h3 q (by omega)];grind
  ·rw[he,ea,hpv];grind
 ·intro i hi
  obtain⟨a,u,h3,h4,h5⟩:=h.all i hi
  rcases h3 with h3|h3
  ·rcases h2 a h3 with h6 |⟨a',h6,h7⟩
   ·refine⟨fun _=>0,_,.inr (fun _=>rfl),(hup _ h4).combine (r c) hlead,fun q=>?_⟩
    rw[h5,h6,hpr];grind
   ·refine⟨a',_,.inl h6,(hup _ h4).combine (a c) hlead,fun q=>?_⟩
    rw[h5,h7,hpv];grind
  ·exact⟨a,u,.inr h3,hup _ h4,h5⟩
theorem top_pos (n B:Nat):1≤top n B:=by
 rw[top]
 refine nd_pos.2 ?_
 have h:0<cap n B:=Nat.pow_pos (Nat.succ_pos _)
 omega
theorem GjAt.rest_size (h:GjAt n B rows m c ld L R O A) (hb:∀ i q,(rows i q).natAbs≤B) {a:Nat→Rat} (ha:A a) (q:Nat):hq (a q)≤top n B:=by
 obtain⟨h3,i,hi,u,hu,he⟩:=h.rest a ha
 obtain⟨k,N,hk,hkc,hN,hE⟩:=h.inv.height (rows i) (hb i) a c u hu he h3
 rw[rat_of_mul hk (hE q)]
 exact hq_over hk (nd_top1 h.le (hN _)) (nd_top2 h.le hkc)
theorem GjAt.pivot_size (h:GjAt n B rows m c ld L R O A) (hb:∀ i q,(rows i q).natAbs≤B) {a:Nat→Rat} (ha:A a) (h0:a c≠0) (q:Nat):hq (1 / a c*a q)≤top n B:=by
 obtain⟨h3,i,hi,u,hu,he⟩:=h.rest a ha
 obtain⟨k,N,hk,hkc,hN,hE⟩:=h.inv.height (rows i) (hb i) a c u hu he h3
 have hkr:(k:Rat)≠0:=fun e=>hk (by exact_mod_cast e)
 have h1:=hE c
 have h2:=hE q
 have h4:N c≠0:=fun e=>by
  rw[e]at h1
  rcases Rat.mul_eq_zero.1 (h1.trans rfl)with h5|h5
  ·exact hkr h5
  ·exact h0 h5
 have h6:(N c:Rat)*(1 / a c*a q)=(N q:Rat):=by rw[← h1,← h2];grind
 rw[rat_of_mul h4 h6]
 exact hq_over h4 (nd_top1 h.le (hN _)) (nd_top1 h.le (hN _))
theorem RSp.high {u:Nat→Rat} (hu:RSp rows m u) (h0:∀ i q,n≤q→rows i q=0) (q:Nat) (hq:n≤q):u q=0:=by
 obtain⟨z,hz⟩:=hu
 rw[hz]
 exact sumQ_zero (fun i _=>by rw[h0 i q hq];have:((0:Int):Rat)=0:=rfl;rw[this];grind)
theorem GjAt.unit (h:GjAt n B rows m c ld L R O A) (h0:∀ i q,n≤q→rows i q=0) {p:Nat} (hp:ld p=true) (q:Nat):unitQ p q=sumQ (fun f=>(if ld f then 0 else -(O p f))*L f q) n+O p q:=by
 obtain⟨h1,h2,h3⟩:=h.out p hp
 have hpn:p<n:=Nat.lt_of_lt_of_le (h.lt p hp) h.le
 rw[unitQ]
 by_cases hqn:q<n
 ·have e1:sumQ (fun f=>(if ld f then 0 else -(O p f))*L f q) n=(if ld q then 0 else -(O p q)):=by
   rw[sumQ_single hqn (fun i _ hne=>?_)]
   ·cases hl:ld q with
    | true=>simp
    | false=>rw[h.inv.one];simp
   ·cases hl:ld i with
    | true=>simp
    | false=>rw[h.inv.free i hl,show(if q=i then(1:Rat)else 0)=0 from if_neg (fun e=>hne e.symm)];exact Rat.mul_zero _
  rw[e1]
  cases hl:ld q with
  | true=>
   by_cases e:q=p
   ·rw[if_pos e,e,h2];simp;grind
   ·rw[if_neg e,h3 q hl e];simp;grind
  | false=>
   have e:q≠p:=fun e=>by rw[e,hp]at hl;cases hl
   rw[if_neg e];simp;grind
 ·rw[if_neg (by omega),RSp.high (h.rest_sp h1) h0 q (by omega),sumQ_zero (fun i hi=>?_)]
  ·grind
  ·cases hl:ld i with
   | true=>simp
   | false=>rw[h.inv.free i hl,show(if q=i then(1:Rat)else 0)=0 from if_neg (by omega)];exact Rat.mul_zero _
theorem GjAt.out_size (h:GjAt n B rows m c ld L R O A) (hB:1≤B) (h0:∀ i q,n≤q→rows i q=0) {p:Nat} (hp:ld p=true) (q:Nat):hq (O p q)≤top n B:=by
 obtain⟨h1,h2,h3⟩:=h.out p hp
 by_cases hqn:q<n
 ·cases hl:ld q with
  | true=>
   by_cases e:q=p
   ·rw[e,h2,hq_one];exact top_pos n B
   ·rw[h3 q hl e,hq_zero];exact top_pos n B
  | false=>
   obtain⟨k,N,hk,hkc,hN,hE⟩:=h.inv.coords (unitZ p) (fun q=>by rw[unitZ];split <;> simp <;> omega) n (fun f=>-(O p f)) (O p) (h1.mono h.le) (fun q=>by
    rw[← h.unit h0 hp q,unitZ,unitQ];split <;> rfl)
   have h4:=hE q hqn hl
   rw[← hq_neg,rat_of_mul hk h4]
   exact hq_over hk (nd_top2 (Nat.le_refl _) (hN q hqn)) (nd_top2 (Nat.le_refl _) hkc)
 ·rw[RSp.high (h.rest_sp h1) h0 q (by omega),hq_zero];exact top_pos n B
theorem Inv.lead_of {B n j:Nat} {ld:Nat→Bool} {L:Nat→Nat→Rat} {R:Nat→Nat→Int} (h:Inv B ld L R) {u:Nat→Rat} (hu:Sp ld L n u) (h0:∀ q,q<j→u q=0) (h1:u j≠0) (hj:j<n):ld j=true:=by
 obtain⟨z,hz,ez⟩:=hu
 have hcut:∀ q,q≤j→sumQ (fun i=>z i*L i q) n=sumQ (fun i=>z i*L i q) (j+1):=fun q hq=>sumQ_tail (by omega) (fun i h2 h3=>by rw[h.low i q (by omega)];grind)
 have h2:=h.tri (t:=j) (z:=z) (fun q hq=>by
  have h3:=h0 q hq
  rw[ez,hcut q (by omega),sumQ,h.low j q hq]at h3
  grind)
 cases hl:ld j with
 | true=>rfl
 | false=>
  refine absurd ?_ h1
  rw[ez,hcut j (Nat.le_refl _),sumQ,hz j hj hl,sumQ_zero (fun i hi=>by rw[h2 i hi];grind)]
  grind
theorem GjAt.done (h:GjAt n B rows m c ld L R O A) (h0:∀ i q,n≤q→rows i q=0) (he:c=n∨∀ a,¬ A a) (i:Nat) (hi:i<m):Sp ld L n (fun q=>(rows i q:Rat)):=by
 obtain⟨a,u,h1,h2,h3⟩:=h.all i hi
 refine(h2.mono h.le).congr (fun q=>?_)
 have ha:a q=0:=by
  rcases h1 with h1|h1
  ·rcases he with he|he
   ·by_cases hq:q<n
    ·exact(h.rest a h1).1 q (by omega)
    ·have h4:=h3 q
     rw[h0 i q (by omega),RSp.high (h.rest_sp h2) h0 q (by omega)]at h4
     have:((0:Int):Rat)=0:=rfl
     rw[this]at h4
     grind
   ·exact absurd h1 (he a)
  ·exact h1 q
 rw[h3,ha];grind
theorem GjAt.same_ld (h:GjAt n B rows m c ld L R O A) (hB:1≤B) (hb:∀ i q,(rows i q).natAbs≤B) (h0:∀ i q,n≤q→rows i q=0) (he:c=n∨∀ a,¬ A a) (j:Nat) (hj:j<n):ld j=ldOf (elim n rows m) j:=by
 obtain⟨s1,s2⟩:=elim_span hB hb h0 m
 have hg:=Good.elim hB hb h0 m
 obtain⟨R2,hi⟩:=hg.inv
 have k1:ldOf (elim n rows m) j=true→ld j=true:=fun hl=>by
  have h1:=(s2 j hl).sp (h.done h0 he)
  exact h.inv.lead_of h1 (fun q hq=>hi.low j q hq) (by rw[hi.one];grind) hj
 have k2:ld j=true→ldOf (elim n rows m) j=true:=fun hl=>by
  have h1:=(h.sp j hl).sp s1
  exact hi.lead_of h1 (fun q hq=>h.inv.low j q hq) (by rw[h.inv.one];grind) hj
 cases e1:ld j with
 | true=>exact(k2 e1).symm
 | false=>
  cases e2:ldOf (elim n rows m) j with
  | true=>rw[k1 e2]at e1;cases e1
  | false=>rfl
theorem GjAt.same_crd (h:GjAt n B rows m c ld L R O A) (hB:1≤B) (hb:∀ i q,(rows i q).natAbs≤B) (h0:∀ i q,n≤q→rows i q=0) (he:c=n∨∀ a,¬ A a) {p f:Nat} (hp:ld p=true) (hf:f<n) (hl:ld f=false):
  crd (elim n rows m) n n p f=-(O p f):=by
 obtain⟨s1,s2⟩:=elim_span hB hb h0 m
 have hg:=Good.elim hB hb h0 m
 obtain⟨R2,hi⟩:=hg.inv
 have hld:=h.same_ld hB hb h0 he
 have hpn:p<n:=Nat.lt_of_lt_of_le (h.lt p hp) h.le
 obtain⟨u,hu,eu⟩:=said hg n p (by omega) hpn n (by omega) (Nat.le_refl _)
 have hv:=(h.rest_sp (h.out p hp).1).sp s1
 refine hi.unique (x:=crd (elim n rows m) n n p) (y:=fun f=>-(O p f)) hu hv (fun q hq=>?_) f hf (by rw[← hld f hf];exact hl)
 rw[← eu]
 have h1:=h.unit h0 hp q
 rw[unitQ]at h1
 rw[h1]
 congr 1
 refine sumQ_congr fun i hi2=>?_
 rw[hld i hi2]
 cases e:ldOf (elim n rows m) i with
 | true=>simp
 | false=>rw[h.inv.free i (by rw[hld i hi2];exact e),hi.free i e]
end
end Eli
end Go.Proofs.YthikonjlgljikaaGreatDoor
namespace Go.Proofs.YthikonjlgljikaaGreatDoor
open Go.RowKit Eli
def pvs (ld:Nat→Bool) (c:Nat):List Nat:=(List.range c).filter ld
theorem pvs_succ (ld:Nat→Bool) (c:Nat):pvs ld (c+1)=if ld c then pvs ld c++[c]else pvs ld c:=by
 rw[pvs,List.range_succ,List.filter_append,List.filter_cons]
 cases ld c with
 | true=>rfl
 | false=>exact List.append_nil _
theorem pvs_congr {ld ld':Nat→Bool} {c:Nat} (h:∀ j,j<c→ld' j=ld j):pvs ld' c=pvs ld c:=List.filter_congr (fun j hj=>h j (List.mem_range.1 hj))
theorem pvs_mem {ld:Nat→Bool} {c p:Nat}:p∈pvs ld c↔p<c∧ld p=true:=by rw[pvs,List.mem_filter,List.mem_range]
theorem pvs_length (ld:Nat→Bool) (c:Nat):(pvs ld c).length≤c:=by
 have:=List.length_filter_le ld (List.range c)
 rw[List.length_range]at this
 exact this
theorem pvs_stop {ld:Nat→Bool} {c n:Nat} (hc:c≤n) (h:∀ p,ld p=true→p<c):pvs ld n=pvs ld c:=by
 induction n with
 | zero=>obtain rfl:c=0:=by omega
         rfl
 | succ n ih=>
  by_cases e:c=n+1
  ·rw[e]
  ·rw[pvs_succ,if_neg (fun hl=>by have:=h n hl;omega),ih (by omega)]
def clr (pv:Nat→Rat) (c:Nat) (x:Nat→Rat):Nat→Rat:=fun q=>x q+-(x c)*pv q
def rst (la:List (Nat→Rat)) (pv:Nat→Rat) (c t:Nat):Nat→List (Nat→Rat)
 | 0=>[]
 | i+1=>if i=t then rst la pv c t i else rst la pv c t i++[clr pv c (la.getD i (fun _=>0))]
theorem rst_mem {la:List (Nat→Rat)} {pv:Nat→Rat} {c t:Nat} {x:Nat→Rat}:∀ {i:Nat},x∈rst la pv c t i↔∃ j,j<i∧j≠t∧x=clr pv c (la.getD j (fun _=>0))
 | 0=>⟨fun h=>(by cases h),fun⟨j,h,_⟩=>absurd h (Nat.not_lt_zero _)⟩
 | i+1=>by
  rw[rst]
  split
  ·rename_i e
   rw[rst_mem]
   exact⟨fun⟨j,h1,h2,h3⟩=>⟨j,by omega,h2,h3⟩,fun⟨j,h1,h2,h3⟩=>⟨j,by omega,h2,h3⟩⟩
  ·rename_i e
   rw[List.mem_append,rst_mem,List.mem_singleton]
   constructor
   ·rintro(⟨j,h1,h2,h3⟩|h)
    ·exact⟨j,by omega,h2,h3⟩
    ·exact⟨i,Nat.lt_succ_self _,e,h⟩
   ·rintro⟨j,h1,h2,h3⟩
    by_cases hj:j=i
    ·subst hj;exact .inr h3
    ·exact .inl ⟨j,by omega,h2,h3⟩
theorem rst_length (la:List (Nat→Rat)) (pv:Nat→Rat) (c t:Nat):∀ i,(rst la pv c t i).length≤i
 | 0=>Nat.le_refl _
 | i+1=>by
  rw[rst]
  have:=rst_length la pv c t i
  split
  ·omega
  ·rw[List.length_append,List.length_singleton];omega
def mixR (lo:List (Nat→Rat)) (pv:Nat→Rat) (c i:Nat):List (Nat→Rat):=lo.mapIdx fun j x=>if j<i then clr pv c x else x
theorem mixR_length (lo:List (Nat→Rat)) (pv:Nat→Rat) (c i:Nat):(mixR lo pv c i).length=lo.length:=by unfold mixR;rw[List.length_mapIdx]
theorem mixR_zero (lo:List (Nat→Rat)) (pv:Nat→Rat) (c:Nat):mixR lo pv c 0=lo:=by
 refine List.ext_getElem? fun j=>?_
 unfold mixR
 rw[List.getElem?_mapIdx]
 cases lo[j]? <;> simp
theorem mixR_all (lo:List (Nat→Rat)) (pv:Nat→Rat) (c:Nat):mixR lo pv c lo.length=lo.map (clr pv c):=by
 refine List.ext_getElem? fun j=>?_
 unfold mixR
 rw[List.getElem?_mapIdx,List.getElem?_map]
 by_cases h:j<lo.length
 ·rw[List.getElem?_eq_getElem h];simp[h]
 ·rw[List.getElem?_eq_none (by omega)];rfl
theorem mixR_at {lo:List (Nat→Rat)} {pv:Nat→Rat} {c i:Nat} {x:Nat→Rat} (h:lo[i]?=some x):(mixR lo pv c i)[i]?=some x:=by
 unfold mixR
 rw[List.getElem?_mapIdx,h];simp
theorem mixR_set {lo:List (Nat→Rat)} {pv:Nat→Rat} {c i:Nat} {x:Nat→Rat} (h:lo[i]?=some x):(mixR lo pv c i).set i (clr pv c x)=mixR lo pv c (i+1):=by
 refine List.ext_getElem? fun j=>?_
 have hi:i<lo.length:=by
  rcases Nat.lt_or_ge i lo.length with h1|h1
  ·exact h1
  ·rw[List.getElem?_eq_none h1]at h;cases h
 by_cases e:j=i
 ·subst e
  rw[List.getElem?_set_self (by rw[mixR_length];exact hi)]
  unfold mixR
  rw[List.getElem?_mapIdx,h];simp
 ·rw[List.getElem?_set_ne (fun h=>e h.symm)]
  unfold mixR
  rw[List.getElem?_mapIdx,List.getElem?_mapIdx]
  cases lo[j]? with
  | none=>rfl
  | some y=>
   simp only[Option.map_some]
   by_cases h1:j<i
   ·rw[if_pos h1,if_pos (by omega)]
   ·rw[if_neg h1,if_neg (by omega)]
def rowsL (rows:Nat→Nat→Int) (m:Nat):List (Nat→Rat):=(List.range m).map fun i q=>((rows i q:Int):Rat)
theorem rowsL_length (rows:Nat→Nat→Int) (m:Nat):(rowsL rows m).length=m:=by unfold rowsL;rw[List.length_map,List.length_range]
def inL (la:List (Nat→Rat)):(Nat→Rat)→Prop:=fun a=>∃ x,x∈la∧∀ q,a q=x q
theorem gj_start {n B m:Nat} {rows:Nat→Nat→Int} (hB:1≤B):GjAt n B rows m 0 (fun _=>false) unitQ unitZ (fun _ _=>0) (inL (rowsL rows m)):=by
 refine(GjAt.start hB).same_rest (fun a ⟨x,hx,e⟩=>?_) (fun a ⟨i,hi,e⟩=>?_)
 ·obtain⟨i,hi,rfl⟩:=List.mem_map.1 hx
  exact⟨_,⟨i,List.mem_range.1 hi,fun _=>rfl⟩,e⟩
 ·exact⟨_,⟨_,List.mem_map.2 ⟨i,List.mem_range.2 hi,rfl⟩,fun _=>rfl⟩,fun q=>(e q).symm⟩
theorem gj_pivot {n B m c t:Nat} {rows:Nat→Nat→Int} {ld:Nat→Bool} {L:Nat→Nat→Rat} {R:Nat→Nat→Int} {O:Nat→Nat→Rat} {la:List (Nat→Rat)} {x:Nat→Rat}
  (h:GjAt n B rows m c ld L R O (inL la)) (hb:∀ i q,(rows i q).natAbs≤B) (hc:c<n) (hx:la[t]?=some x) (h0:x c≠0):
  ∃ ld' L' R' O',GjAt n B rows m (c+1) ld' L' R' O' (inL (rst la (fun q=>1 / x c*x q) c t la.length))∧(pvs ld' (c+1)).map O'=((pvs ld c).map O).map (clr (fun q=>1 / x c*x q) c)++[fun q=>1 / x c*x q]∧pvs ld' (c+1)=pvs ld c++[c]:=by
 have hxm:x∈la:=List.mem_of_getElem? hx
 have hgt:la.getD t (fun _=>0)=x:=by rw[List.getD_eq_getElem?_getD,hx];rfl
 have htl:t<la.length:=by
  rcases Nat.lt_or_ge t la.length with h1|h1
  ·exact h1
  ·rw[List.getElem?_eq_none h1]at hx;cases hx
 have hcl:∀ j,j<c→(ld j||decide (j=c))=ld j:=fun j hj=>by rw[decide_eq_false (by omega),Bool.or_false]
 obtain⟨L',R',hg⟩:=h.pivot hb hc (r:=x) ⟨x,hxm,fun _=>rfl⟩ h0 (A':=inL (rst la (fun q=>1 / x c*x q) c t la.length)) (O':=fun p=>if p=c then(fun q=>1 / x c*x q)else clr (fun q=>1 / x c*x q) c (O p)) (ld':=fun j=>ld j||decide (j=c)) (fun _=>rfl)
  (fun a' ⟨y,hy,e⟩=>by
   obtain⟨j,h1,h2,rfl⟩:=rst_mem.1 hy
   refine⟨la.getD j (fun _=>0),⟨_,?_,fun _=>rfl⟩,fun q=>?_⟩
   ·rw[List.getD_eq_getElem?_getD,List.getElem?_eq_getElem h1];exact List.getElem_mem h1
   ·rw[e,clr])
  (fun a ⟨y,hy,e⟩=>by
   obtain⟨j,hj,e2⟩:=List.getElem_of_mem hy
   have e3:la.getD j (fun _=>0)=y:=by rw[List.getD_eq_getElem?_getD,List.getElem?_eq_getElem hj,e2];rfl
   by_cases hjt:j=t
   ·left
    intro q
    rw[e,← e3,hjt,hgt]
   ·right
    exact⟨clr (fun q=>1 / x c*x q) c y,⟨_,rst_mem.2 ⟨j,hj,hjt,by rw[e3]⟩,fun _=>rfl⟩,fun q=>by rw[clr,e,e]⟩)
  (fun q=>by simp) (fun p hp q=>by
   have:p≠c:=by have:=h.lt p hp;omega
   simp only[if_neg this]
   rw[clr])
 have hps:pvs (fun j=>ld j||decide (j=c)) (c+1)=pvs ld c++[c]:=by
  rw[pvs_succ,if_pos (by simp),pvs_congr hcl]
 refine⟨_,L',R',_,hg,?_,hps⟩
 rw[hps,List.map_append,List.map_map]
 congr 1
 ·refine List.map_congr_left fun p hp=>?_
  have:p≠c:=by have:=(pvs_mem.1 hp).1;omega
  simp only[if_neg this,Function.comp]
 ·simp
theorem OwnG.all {l:List (Nat→Rat)} {N:Nat} {w:World} {B:Nat} {v:Value} {xs:List Value} (h1:OwnK SliceV w B 24 1 v l.length xs) (h2:∀ (j:Nat) x,l[j]?=some x→∃ vr,xs[j]?=some vr∧RowV x N w vr):∀ u∈xs,SliceV u:=by
 intro u hu
 obtain⟨j,hj,e⟩:=List.getElem_of_mem hu
 have hl:xs.length=l.length:=by have:=h1.1.1;omega
 obtain⟨vr,e1,⟨p,c,e2⟩,_⟩:=h2 j l[j] (List.getElem?_eq_getElem (by omega))
 rw[List.getElem?_eq_getElem hj,e]at e1
 injection e1 with e1
 exact⟨p,N,c,e1.trans e2⟩
theorem SliceV.one {u:Value} (h:SliceV u):u.oneCell'=true:=by
 obtain⟨p,n,c,rfl⟩:=h
 rfl
theorem sliceZ:∀ u∈(Value.slice none 0 0).cells.toList,SliceV u:=by
 intro u hu
 simp[Value.cells]at hu
 exact⟨none,0,0,hu⟩
theorem OwnG.val {l:List (Nat→Rat)} {N:Nat} {w:World} {B:Nat} {v:Value} (h:OwnG l N w B v):∃ p c,v=.slice p l.length c:=by
 obtain⟨xs,h1,_⟩:=h
 exact own_slice h1.1
theorem OwnN.val {l:List Nat} {w:World} {B:Nat} {v:Value} (h:OwnN l w B v):∃ p c,v=.slice p l.length c:=own_slice h.1
theorem OwnG.base {l:List (Nat→Rat)} {N:Nat} {w:World} {B B':Nat} {v:Value} (h:OwnG l N w B v) (hB:B'≤B):OwnG l N w B' v:=by
 obtain⟨xs,h1,h2⟩:=h
 refine⟨xs,⟨⟨h1.1.1,?_⟩,h1.2⟩,h2⟩
 rcases h1.1.2 with h |⟨g',cap,cs,e,hB',hr⟩
 ·exact .inl h
 ·exact .inr ⟨g',cap,cs,e,Nat.le_trans hB hB',hr⟩
theorem OwnG.ge {l:List (Nat→Rat)} {N:Nat} {w:World} {B g:Nat} {v:Value} (h:OwnG l N w B v) (e:v.ownBlock=some g):B≤g∧g<w.heap.size:=by
 obtain⟨xs,h1,_⟩:=h
 exact⟨own_ge h1.1 e.symm,(h1.2 g e).1⟩
theorem OwnN.ge {l:List Nat} {w:World} {B g:Nat} {v:Value} (h:OwnN l w B v) (e:v.ownBlock=some g):B≤g∧g<w.heap.size:=⟨own_ge h.1 e.symm,(h.2 g e).1⟩
theorem OwnK.but {K:Value→Prop} {w w':World} {B E sz n:Nat} {v:Value} {xs:List Value} {R:Option Nat} (h:OwnK K w B E sz v n xs) (hg:w.grownBy w' R) (hne:∀ g,v.ownBlock=some g→R≠some g):OwnK K w' B E sz v n xs:=by
 refine⟨h.1.kept hg ?_,fun g e=>?_⟩
 ·cases hv:v.ownBlock with
  | none=>exact .inl rfl
  | some g=>exact .inr (fun e=>hne g hv e.symm)
 ·have hs:=h.2 g e
  have hb:=hg.block g hs.1 (fun e2=>hne g e e2.symm)
  exact⟨Nat.lt_of_lt_of_le hs.1 hg.size,fun i u hu=>hs.2 i u ((World.cell?_of_block (a:=⟨g,i,none⟩) hb).symm.trans hu)⟩
theorem OwnG.but {l:List (Nat→Rat)} {N:Nat} {w w':World} {B:Nat} {v:Value} {R:Option Nat} (h:OwnG l N w B v) (hs:∀ r,R=some r→Stk SliceV w r) (hg:w.grownBy w' R) (h32:I32 w w') (hne:∀ g,v.ownBlock=some g→R≠some g):OwnG l N w' B v:=by
 obtain⟨xs,h1,h2⟩:=h
 exact⟨xs,h1.but hg hne,fun j x hx=>by obtain⟨vr,e,hr⟩:=h2 j x hx;exact⟨vr,e,hr.grown hs hg h32⟩⟩
def IntV (v:Value):Prop:=∃ n,v=.int .i64 n
theorem RowV.ints {f:Nat→Rat} {N:Nat} {w w':World} {v:Value} {o:Option Nat} (h:RowV f N w v) (hs:∀ R,o=some R→∀ i u,w.cell? ⟨R,i,none⟩=some u→∀ b,u≠.bool b) (hg:w.grownBy w' o) (h32:I32 w w'):RowV f N w' v:=by
 refine⟨h.1,?_⟩
 rcases h.2 with h1 |⟨b,o',cap,e,hb,hq⟩
 ·exact .inl h1
 ·refine .inr ⟨b,o',cap,e,Nat.lt_of_lt_of_le hb hg.size,fun j hj=>?_⟩
  obtain⟨s,p,n,c,t,q,m,d,h0,e1,e2,e3,h4⟩:=hq j hj
  have hne:some b≠o:=fun e1=>hs b e1.symm _ _ h0 _ rfl
  exact⟨s,p,n,c,t,q,m,d,hg.cell h0 hne,hg.cell e1 hne,hg.cell e2 hne,hg.cell e3 hne,h4.i32 h32⟩
end Go.Proofs.YthikonjlgljikaaGreatDoor
