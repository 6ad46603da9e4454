/- The span of the rows of an elimination, and the classes of vectors. No program in sight. -/
import Derived.Test.YtenlbhlllgppmaaGreatDoorK24
import Derived.Test.YtenlbhlllgppmaaGreatDoorK17
import Derived.Test.YtenlbhlllgppmaaGreatDoorK23
import Derived.Test.YtenlbhlllgppmaaGreatDoorK34
import Derived.Test.YtenlbhlllgppmaaGreatDoorK32
set_option linter.unusedSimpArgs false
namespace Go.Proofs.YtenlbhlllgppmaaGreatDoor
namespace Eli
open Sie
def RSp (rows:Nat→Nat→Int) (k:Nat) (u:Nat→Rat):Prop:=∃ z:Nat→Rat,∀ q,u q=sumQ (fun i=>z i*(rows i q:Rat)) k
theorem RSp.nil (rows:Nat→Nat→Int) (k:Nat):RSp rows k (fun _=>0):=⟨fun _=>0,fun q=>(sumQ_zero (fun i _=>by grind)).symm⟩
theorem RSp.combine {rows:Nat→Nat→Int} {k:Nat} {u v:Nat→Rat} (hu:RSp rows k u) (c:Rat) (hv:RSp rows k v):RSp rows k (fun q=>u q+c*v q):=by
 obtain⟨y,ey⟩:=hu
 obtain⟨z,ez⟩:=hv
 refine⟨fun j=>y j+c*z j,fun q=>?_⟩
 dsimp only
 rw[ey,ez,← sumQ_mul,← sumQ_add]
 exact sumQ_congr fun i _=>by grind
theorem RSp.congr {rows:Nat→Nat→Int} {k:Nat} {u v:Nat→Rat} (hu:RSp rows k u) (h:∀ q,v q=u q):RSp rows k v:=by
 obtain⟨y,ey⟩:=hu
 exact⟨y,fun q=>by rw[h,ey]⟩
theorem RSp.mono {rows:Nat→Nat→Int} {k k':Nat} {u:Nat→Rat} (hu:RSp rows k u) (h:k≤k'):RSp rows k' u:=by
 obtain⟨y,ey⟩:=hu
 refine⟨fun j=>if j<k then y j else 0,fun q=>?_⟩
 rw[ey,sumQ_tail h (fun i h1 _=>by simp only[if_neg (Nat.not_lt.2 h1)];grind)]
 exact sumQ_congr fun i hi=>by simp only[if_pos hi]
theorem RSp.row {rows:Nat→Nat→Int} {k i:Nat} (hi:i<k):RSp rows k (fun q=>(rows i q:Rat)):=by
 refine⟨fun j=>if j=i then 1 else 0,fun q=>?_⟩
 rw[sumQ_single hi (fun j _ hne=>by simp only[if_neg hne];grind)]
 simp
theorem RSp.sum {rows:Nat→Nat→Int} {k:Nat} {L:Nat→Nat→Rat} {z:Nat→Rat}:∀ t,(∀ j,j<t→z j=0∨RSp rows k (L j))→RSp rows k (fun q=>sumQ (fun j=>z j*L j q) t)
 | 0,_=>(RSp.nil rows k).congr (fun _=>rfl)
 | t+1,h=>by
  have h1:=RSp.sum t (fun j hj=>h j (by omega)) (rows:=rows) (k:=k) (L:=L) (z:=z)
  rcases h t (Nat.lt_succ_self _)with h2|h2
  ·exact h1.congr (fun q=>by rw[sumQ,h2];grind)
  ·exact(h1.combine (z t) h2).congr (fun q=>by rw[sumQ])
theorem RSp.of_sp {rows:Nat→Nat→Int} {k t:Nat} {ld:Nat→Bool} {L:Nat→Nat→Rat} {u:Nat→Rat} (hu:Sp ld L t u) (h:∀ j,j<t→ld j=true→RSp rows k (L j)):RSp rows k u:=by
 obtain⟨z,hz,ez⟩:=hu
 refine(RSp.sum (L:=L) (z:=z) t (fun j hj=>?_)).congr ez
 cases hl:ld j with
 | false=>exact .inl (hz j hj hl)
 | true=>exact .inr (h j hj hl)
theorem Sp.sum {ld:Nat→Bool} {L:Nat→Nat→Rat} {t:Nat} {R:Nat→Nat→Rat} {z:Nat→Rat}:∀ k,(∀ j,j<k→z j=0∨Sp ld L t (R j))→Sp ld L t (fun q=>sumQ (fun j=>z j*R j q) k)
 | 0,_=>(Sp.nil ld L t).congr (fun _=>rfl)
 | k+1,h=>by
  have h1:=Sp.sum k (fun j hj=>h j (by omega)) (ld:=ld) (L:=L) (t:=t) (R:=R) (z:=z)
  rcases h k (Nat.lt_succ_self _)with h2|h2
  ·exact h1.congr (fun q=>by rw[sumQ,h2];grind)
  ·exact(h1.combine (z k) h2).congr (fun q=>by rw[sumQ])
theorem RSp.sp {rows:Nat→Nat→Int} {k t:Nat} {ld:Nat→Bool} {L:Nat→Nat→Rat} {u:Nat→Rat} (hu:RSp rows k u) (h:∀ i,i<k→Sp ld L t (fun q=>(rows i q:Rat))):Sp ld L t u:=by
 obtain⟨z,ez⟩:=hu
 exact(Sp.sum (R:=fun i q=>(rows i q:Rat)) (z:=z) k (fun j hj=>.inr (h j hj))).congr ez
theorem Sp.trim {ld:Nat→Bool} {L:Nat→Nat→Rat} {t n:Nat} {u:Nat→Rat} (hu:Sp ld L t u) (h:∀ j,n≤j→ld j=false):Sp ld L n u:=by
 by_cases ht:t≤n
 ·exact hu.mono ht
 ·obtain⟨z,hz,ez⟩:=hu
  refine⟨z,fun j hj hl=>hz j (by omega) hl,fun q=>?_⟩
  rw[ez]
  exact sumQ_tail (by omega) (fun i h1 h2=>by rw[hz i h2 (h i h1)];grind)
theorem Good.high {n B:Nat} {leads:Nat→List (Nat×Rat)} (h:Good n B leads) (j:Nat) (hj:n≤j):ldOf leads j=false:=ldOf_false ((h.ord j).top hj)
theorem put_facts {leads:Nat→List (Nat×Rat)} {x:Nat×Rat} {r:List (Nat×Rat)} (hno:leads x.1=[]):
  ldOf (Eli.put leads (x :: r)) x.1=true∧(∀ q,rowOf (Eli.put leads (x :: r)) x.1 q=1 / x.2*val (x :: r) q) ∧
  (∀ j,j≠x.1→ldOf (Eli.put leads (x :: r)) j=ldOf leads j∧rowOf (Eli.put leads (x :: r)) j=rowOf leads j) ∧
  ∀ t u,Sp (ldOf leads) (rowOf leads) t u→Sp (ldOf (Eli.put leads (x :: r))) (rowOf (Eli.put leads (x :: r))) t u:=by
 obtain⟨L',hL'⟩:∃ L',Eli.put leads (x :: r)=L':=⟨_,rfl⟩
 have e1:L' x.1=scl (x :: r):=by rw[← hL'];exact if_pos rfl
 have e2:∀ j,j≠x.1→L' j=leads j:=fun j hj=>by rw[← hL'];exact if_neg hj
 have e3:scl (x :: r)≠[]:=by rw[scl,List.map_cons];exact List.cons_ne_nil _ _
 have hld:ldOf L' x.1=true:=ldOf_true (by rw[e1];exact e3)
 have hld2:∀ j,j≠x.1→ldOf L' j=ldOf leads j:=fun j hj=>by rw[ldOf,e2 j hj];rfl
 have hro:∀ j,j≠x.1→rowOf L' j=rowOf leads j:=fun j hj=>by funext q;rw[rowOf,rowOf,hld2 j hj,e2 j hj]
 have hrx:∀ q,rowOf L' x.1 q=1 / x.2*val (x :: r) q:=fun q=>by rw[rowOf,hld,if_pos rfl,e1,val_scl]
 rw[hL']
 refine⟨hld,hrx,fun j hj=>⟨hld2 j hj,hro j hj⟩,fun t u hu=>hu.turn fun j _ hl=>?_⟩
 have hne:j≠x.1:=fun e=>by rw[e,ldOf_false hno]at hl;cases hl
 exact⟨by rw[hld2 j hne];exact hl,hro j hne⟩
theorem put_new {n B:Nat} {leads:Nat→List (Nat×Rat)} {v:Nat→Int} {t:Nat} {x:Nat×Rat} {r:List (Nat×Rat)} (h:Good n B leads) (hr:RowOk n leads v t (x :: r)) (hs:red leads (x :: r)=x :: r):leads x.1=[]:=by
 refine Classical.byContradiction fun hl=>?_
 obtain⟨⟨ho,_⟩,_⟩:=hr.step h hl
 rw[hs]at ho
 have:=ho.1
 omega
theorem elim_span {n B:Nat} {rows:Nat→Nat→Int} (hB:1≤B) (hb:∀ i q,(rows i q).natAbs≤B) (h0:∀ i q,n≤q→rows i q=0) (k:Nat):
  (∀ i,i<k→Sp (ldOf (elim n rows k)) (rowOf (elim n rows k)) n (fun q=>(rows i q:Rat)))∧∀ j,ldOf (elim n rows k) j=true→RSp rows k (rowOf (elim n rows k) j):=by
 induction k with
 | zero=>exact⟨fun i hi=>absurd hi (Nat.not_lt_zero _),fun j hj=>by cases hj⟩
 | succ k ih=>
  obtain⟨ih1,ih2⟩:=ih
  have hg:=Good.elim hB hb h0 k
  have hr:=RowOk.first n (Eli.elim n rows k) (rows k) (h0 k)
  obtain⟨t,h1,_⟩:=hr.steps hg n
  have hs:=hr.end_still hg
  rw[show elim n rows (k+1)=Eli.put (elim n rows k) (redN (elim n rows k) n (spr (rows k) n))from rfl]
  generalize redN (elim n rows k) n (spr (rows k) n)=r at h1 hs ⊢
  generalize elim n rows k=leads at ih1 ih2 hg h1 hs ⊢
  obtain⟨ho,u,hu,he⟩:=h1
  have hun:=hu.trim hg.high
  have hur:RSp rows k u:=RSp.of_sp hu (fun j _ hj=>ih2 j hj)
  cases r with
  | nil=>
   refine⟨fun i hi=>?_,fun j hj=>(ih2 j hj).mono (Nat.le_succ _)⟩
   by_cases e:i=k
   ·subst e
    exact hun.congr (fun q=>by rw[he,val_nil];grind)
   ·exact ih1 i (by omega)
  | cons x r=>
   have hno:=put_new hg ⟨ho,u,hu,he⟩ hs
   obtain⟨f1,f2,f3,f4⟩:=put_facts (r:=r) hno
   have hx:=ho.2.2.1
   have hxn:=ho.2.1
   refine⟨fun i hi=>?_,fun j hj=>?_⟩
   ·by_cases e:i=k
    ·subst e
     refine((f4 _ _ hun).combine x.2 (Sp.lead hxn f1)).congr (fun q=>?_)
     rw[he,f2]
     grind
    ·exact f4 _ _ (ih1 i (by omega))
   ·by_cases e:j=x.1
    ·subst e
     have h2:RSp rows (k+1) (fun q=>(rows k q:Rat)+(-1)*u q):=(RSp.row (Nat.lt_succ_self _)).combine (-1) (hur.mono (Nat.le_succ _))
     refine((RSp.nil rows (k+1)).combine (1 / x.2) h2).congr (fun q=>?_)
     rw[f2,he]
     grind
    ·obtain⟨g1,g2⟩:=f3 j e
     rw[g1]at hj
     rw[g2]
     exact(ih2 j hj).mono (Nat.le_succ _)
theorem Inv.unique {B:Nat} {ld:Nat→Bool} {L:Nat→Nat→Rat} {R:Nat→Nat→Int} (h:Inv B ld L R) {n:Nat} {x y u v:Nat→Rat} (hu:Sp ld L n u) (hv:Sp ld L n v)
  (he:∀ q,q<n→sumQ (fun f=>(if ld f then 0 else x f)*L f q) n+u q=sumQ (fun f=>(if ld f then 0 else y f)*L f q) n+v q):∀ f,f<n→ld f=false→x f=y f:=by
 obtain⟨a,ha,ea⟩:=hu
 obtain⟨b,hb,eb⟩:=hv
 have h1:=h.tri (t:=n) (z:=fun j=>((if ld j then 0 else x j)+a j)+(-1)*((if ld j then 0 else y j)+b j)) (fun q hq=>by
  have e:=he q hq
  rw[ea,eb]at e
  have e2:sumQ (fun j=>(((if ld j then 0 else x j)+a j)+(-1)*((if ld j then 0 else y j)+b j))*L j q) n
    =(sumQ (fun f=>(if ld f then 0 else x f)*L f q) n+sumQ (fun j=>a j*L j q) n)+(-1)*(sumQ (fun f=>(if ld f then 0 else y f)*L f q) n+sumQ (fun j=>b j*L j q) n):=by
   rw[← sumQ_add,← sumQ_add,← sumQ_mul,← sumQ_add]
   exact sumQ_congr fun i _=>by grind
  rw[e2,e]
  grind)
 intro f hf hl
 have h2:=h1 f hf
 rw[ha f hf hl,hb f hf hl,hl]at h2
 simp only[Bool.false_eq_true,if_false]at h2
 grind
theorem class_of {n B:Nat} {leads:Nat→List (Nat×Rat)} (h:Good n B leads) (V:Nat→Rat):∀ m,m≤n →
  ∃ u,Sp (ldOf leads) (rowOf leads) n u∧∀ q,(if q<m then V q else 0)=sumQ (fun f=>(if ldOf leads f then 0 else sumQ (fun j=>V j*crd leads n n j f) m)*rowOf leads f q) n+u q
 | 0,_=>⟨fun _=>0,Sp.nil _ _ _,fun q=>by
   rw[if_neg (Nat.not_lt_zero _),sumQ_zero (fun i _=>?_)]
   ·grind
   ·rw[sumQ];split <;> grind⟩
 | m+1,hm=>by
  obtain⟨u,hu,eu⟩:=class_of h V m (by omega)
  obtain⟨w,hw,ew⟩:=said h n m (by omega) (by omega) n (by omega) (Nat.le_refl _)
  refine⟨_,hu.combine (V m) hw,fun q=>?_⟩
  have e1:(if q<m+1 then V q else 0)=(if q<m then V q else 0)+V m*(if q=m then(1:Rat)else 0):=by
   by_cases h1:q=m
   ·rw[h1,if_pos (by omega),if_neg (by omega),if_pos rfl];grind
   ·rw[if_neg h1]
    by_cases h2:q<m
    ·rw[if_pos (by omega),if_pos h2];grind
    ·rw[if_neg (by omega),if_neg h2];grind
  have e2:sumQ (fun f=>(if ldOf leads f then 0 else sumQ (fun j=>V j*crd leads n n j f) (m+1))*rowOf leads f q) n=sumQ (fun f=>(if ldOf leads f then 0 else sumQ (fun j=>V j*crd leads n n j f) m)*rowOf leads f q) n+V m*sumQ (fun f=>(if ldOf leads f then 0 else crd leads n n m f)*rowOf leads f q) n:=by
   rw[← sumQ_mul,← sumQ_add]
   refine sumQ_congr fun f _=>?_
   rw[sumQ]
   split <;> grind
  rw[e1,eu,ew,e2]
  grind
theorem class_zero {n B:Nat} {leads:Nat→List (Nat×Rat)} (h:Good n B leads) {V:Nat→Rat} (hV:Sp (ldOf leads) (rowOf leads) n V) {f:Nat} (hf:f<n) (hl:leads f=[]):sumQ (fun j=>V j*crd leads n n j f) n=0:=by
 obtain⟨u,hu,eu⟩:=class_of h V n (Nat.le_refl _)
 obtain⟨R,hi⟩:=h.inv
 exact hi.unique (x:=fun f=>sumQ (fun j=>V j*crd leads n n j f) n) (y:=fun _=>0) hu hV (fun q hq=>by
  rw[← eu,if_pos hq,sumQ_zero (fun i _=>?_)]
  ·grind
  ·split <;> grind) f hf (ldOf_false hl)
end Eli
namespace Eli
open Sie
structure GjAt (n B:Nat) (rows:Nat→Nat→Int) (m c:Nat) (ld:Nat→Bool) (L:Nat→Nat→Rat) (R:Nat→Nat→Int) (O:Nat→Nat→Rat) (A:(Nat→Rat)→Prop):Prop where
 inv:Inv B ld L R
 lt:∀ p,ld p=true→p<c
 le:c≤n
 sp:∀ p,ld p=true→RSp rows m (L p)
 out:∀ p,ld p=true→Sp ld L c (O p)∧O p p=1∧∀ p',ld p'=true→p'≠p→O p p'=0
 rest:∀ a,A a→(∀ q,q<c→a q=0)∧∃ i,i<m∧∃ u,Sp ld L c u∧∀ q,(rows i q:Rat)=a q+u q
 all:∀ i,i<m→∃ a u,(A a∨∀ q,a q=0)∧Sp ld L c u∧∀ q,(rows i q:Rat)=a q+u q
def unitQ (j q:Nat):Rat:=if q=j then 1 else 0
def unitZ (j q:Nat):Int:=if q=j then 1 else 0
theorem GjAt.start {n B m:Nat} {rows:Nat→Nat→Int} (hB:1≤B):GjAt n B rows m 0 (fun _=>false) unitQ unitZ (fun _ _=>0) (fun a=>∃ i,i<m∧∀ q,a q=(rows i q:Rat)) where
 inv:=by
  constructor
  ·intro j q hq;rw[unitQ,if_neg (by omega)]
  ·intro j;rw[unitQ,if_pos rfl]
  ·intro j _ q;rfl
  ·intro j _ q;rfl
  ·intro p hp;cases hp
  ·intro p q;rw[unitZ];split
   ·exact hB
   ·exact Nat.zero_le _
 lt:=fun p hp=>by cases hp
 le:=Nat.zero_le _
 sp:=fun p hp=>by cases hp
 out:=fun p hp=>by cases hp
 rest:=fun a ⟨i,hi,ha⟩=>⟨fun q hq=>absurd hq (Nat.not_lt_zero _),i,hi,fun _=>0,Sp.nil _ _ _,fun q=>by rw[ha];grind⟩
 all:=fun i hi=>⟨fun q=>(rows i q:Rat),fun _=>0,.inl ⟨i,hi,fun _=>rfl⟩,Sp.nil _ _ _,fun q=>by grind⟩
section
variable {n B m c:Nat} {rows:Nat→Nat→Int} {ld:Nat→Bool} {L:Nat→Nat→Rat} {R:Nat→Nat→Int} {O:Nat→Nat→Rat} {A:(Nat→Rat)→Prop}
theorem GjAt.skip (h:GjAt n B rows m c ld L R O A) (hc:c<n) (h0:∀ a,A a→a c=0):GjAt n B rows m (c+1) ld L R O A where
 inv:=h.inv
 lt:=fun p hp=>Nat.lt_succ_of_lt (h.lt p hp)
 le:=hc
 sp:=h.sp
 out:=fun p hp=>⟨(h.out p hp).1.mono (Nat.le_succ _),(h.out p hp).2⟩
 rest:=fun a ha=>by
  obtain⟨h1,i,hi,u,hu,he⟩:=h.rest a ha
  refine⟨fun q hq=>?_,i,hi,u,hu.mono (Nat.le_succ _),he⟩
  by_cases e:q=c
  ·rw[e];exact h0 a ha
  ·exact h1 q (by omega)
 all:=fun i hi=>by
  obtain⟨a,u,h1,h2,h3⟩:=h.all i hi
  exact⟨a,u,h1,h2.mono (Nat.le_succ _),h3⟩
theorem GjAt.same_rest (h:GjAt n B rows m c ld L R O A) {A':(Nat→Rat)→Prop} (h1:∀ a,A' a→∃ b,A b∧∀ q,a q=b q) (h2:∀ a,A a→∃ b,A' b∧∀ q,b q=a q):GjAt n B rows m c ld L R O A' where
 inv:=h.inv
 lt:=h.lt
 le:=h.le
 sp:=h.sp
 out:=h.out
 rest:=fun a ha=>by
  obtain⟨b,hb,e⟩:=h1 a ha
  obtain⟨h3,i,hi,u,hu,he⟩:=h.rest b hb
  exact⟨fun q hq=>by rw[e];exact h3 q hq,i,hi,u,hu,fun q=>by rw[e];exact he q⟩
 all:=fun i hi=>by
  obtain⟨a,u,h3,h4,h5⟩:=h.all i hi
  rcases h3 with h3|h3
  ·obtain⟨b,hb,e⟩:=h2 a h3
   exact⟨b,u,.inl hb,h4,fun q=>by rw[e];exact h5 q⟩
  ·exact⟨a,u,.inr h3,h4,h5⟩
theorem GjAt.rest_sp (h:GjAt n B rows m c ld L R O A) {u:Nat→Rat} (hu:Sp ld L c u):RSp rows m u:=RSp.of_sp hu (fun j _ hj=>h.sp j hj)
theorem GjAt.pivot (h:GjAt n B rows m c ld L R O A) (hb:∀ i q,(rows i q).natAbs≤B) (hc:c<n) {r:Nat→Rat} (hr:A r) (h0:r c≠0) {A':(Nat→Rat)→Prop} {O':Nat→Nat→Rat} {ld':Nat→Bool}
  (hl':∀ j,ld' j=(ld j||decide (j=c)))
  (h1:∀ a',A' a'→∃ a,A a∧∀ q,a' q=a q+-(a c)*(1 / r c*r q)) (h2:∀ a,A a→(∀ q,a q=r q)∨∃ a',A' a'∧∀ q,a' q=a q+-(a c)*(1 / r c*r q))
  (hO:∀ q,O' c q=1 / r c*r q) (hO':∀ p,ld p=true→∀ q,O' p q=O p q+-(O p c)*(1 / r c*r q)):
  ∃ L' R',GjAt n B rows m (c+1) ld' L' R' O' A':=by
 obtain⟨hz,i0,hi0,u0,hu0,he0⟩:=h.rest r hr
 have hcl:ld c=false:=by
  cases e:ld c with
  | false=>rfl
  | true=>exact absurd (h.lt c e) (Nat.lt_irrefl _)
 have hlc:ld' c=true:=by rw[hl',decide_eq_true rfl,Bool.or_true]
 have hln:∀ j,j≠c→ld' j=ld j:=fun j hj=>by rw[hl',decide_eq_false hj,Bool.or_false]
 have hlk:∀ j,ld j=true→ld' j=true:=fun j hj=>by rw[hl',hj,Bool.true_or]
 obtain⟨pv,hpv⟩:∃ pv:Nat→Rat,∀ q,pv q=1 / r c*r q:=⟨fun q=>1 / r c*r q,fun _=>rfl⟩
 have hp0:∀ q,q<c→pv q=0:=fun q hq=>by rw[hpv,hz q hq];grind
 have hp1:pv c=1:=by rw[hpv];grind
 have hpr:∀ q,r q=r c*pv q:=fun q=>by rw[hpv];grind
 obtain⟨L',hL'⟩:∃ L':Nat→Nat→Rat,L'=fun j=>if j=c then pv else L j:=⟨_,rfl⟩
 have hLc:L' c=pv:=by rw[hL'];exact if_pos rfl
 have hLn:∀ j,j≠c→L' j=L j:=fun j hj=>by rw[hL'];exact if_neg hj
 have hturn:∀ t u,Sp ld L t u→Sp ld' L' t u:=fun t u hu=>hu.turn fun j _ hj=>by
  have hne:j≠c:=fun e=>by rw[e,hcl]at hj;cases hj
  exact⟨hlk j hj,hLn j hne⟩
 have hup:∀ u,Sp ld L c u→Sp ld' L' (c+1) u:=fun u hu=>(hturn _ _ hu).mono (Nat.le_succ _)
 have hlead:Sp ld' L' (c+1) pv:=hLc▸Sp.lead (Nat.lt_succ_self _) hlc
 have hpsp:RSp rows m pv:=by
  have h3:RSp rows m (fun q=>(rows i0 q:Rat)+(-1)*u0 q):=(RSp.row hi0).combine (-1) (h.rest_sp hu0)
  exact((RSp.nil rows m).combine (1 / r c) h3).congr (fun q=>by rw[hpv,he0];grind)
 refine⟨L',fun j=>if j=c then rows i0 else R j,?_⟩
 constructor
 ·constructor
  ·intro j q hq
   by_cases e:j=c
   ·rw[e,hLc];exact hp0 q (by omega)
   ·rw[hLn j e];exact h.inv.low j q hq
  ·intro j
   by_cases e:j=c
   ·rw[e,hLc];exact hp1
   ·rw[hLn j e];exact h.inv.one j
  ·intro j hj q
   have e:j≠c:=fun e=>by rw[e,hlc]at hj;cases hj
   rw[hLn j e]
   exact h.inv.free j (by rw[← hln j e];exact hj) q
  ·intro j hj q
   have e:j≠c:=fun e=>by rw[e,hlc]at hj;cases hj
   simp only[if_neg e]
   exact h.inv.rfree j (by rw[← hln j e];exact hj) q
  ·intro p hp
   by_cases e:p=c
   ·subst e
    refine⟨r p,h0,u0,hturn _ _ hu0,fun q=>?_⟩
    rw[if_pos rfl,he0,hLc,← hpr]
   ·obtain⟨s,h3,u,hu,he⟩:=h.inv.got p (by rw[← hln p e];exact hp)
    refine⟨s,h3,u,hturn _ _ hu,fun q=>?_⟩
    rw[if_neg e,hLn p e]
    exact he q
  ·intro p q
   show((if p=c then rows i0 else R p) q).natAbs≤B
   split
   ·exact hb i0 q
   ·exact h.inv.bound p q
 ·intro p hp
  by_cases e:p=c
  ·omega
  ·exact Nat.lt_succ_of_lt (h.lt p (by rw[← hln p e];exact hp))
 ·exact hc
 ·intro p hp
  by_cases e:p=c
  ·rw[e,hLc];exact hpsp
  ·rw[hLn p e];exact h.sp p (by rw[← hln p e];exact hp)
 ·intro p hp
  by_cases e:p=c
  ·rw[e]
   refine⟨hlead.congr (fun q=>by rw[hO,hpv]),by rw[hO,← hpv];exact hp1,fun p' hp' hne=>?_⟩
   rw[hO,← hpv]
   exact hp0 p' (h.lt p' (by rw[← hln p' hne];exact hp'))
  ·have hp2:ld p=true:=by rw[← hln p e];exact hp
   obtain⟨h3,h4,h5⟩:=h.out p hp2
   have hlt:=h.lt p hp2
   refine⟨((hup _ h3).combine (-(O p c)) hlead).congr (fun q=>by rw[hO' p hp2,hpv]),?_,fun p' hp' hne=>?_⟩
   ·rw[hO' p hp2,← hpv,hp0 p hlt,h4];grind
   ·rw[hO' p hp2,← hpv]
    by_cases e2:p'=c
    ·rw[e2,hp1];grind
    ·have hp3:ld p'=true:=by rw[← hln p' e2];exact hp'
     rw[hp0 p' (h.lt p' hp3),h5 p' hp3 hne];grind
 ·intro a' ha'
  obtain⟨a,ha,ea⟩:=h1 a' ha'
  obtain⟨h3,i,hi,u,hu,he⟩:=h.rest a ha
  refine⟨fun q hq=>?_,i,hi,_,(hup _ hu).combine (a c) hlead,fun q=>?_⟩
  ·rw[ea,← hpv]
   by_cases e:q=c
   ·rw[e,hp1];grind
   ·rw[hp0 q (by omega),h3 q (by omega)];grind
  ·rw[he,ea,hpv];grind
 ·intro i hi
  obtain⟨a,u,h3,h4,h5⟩:=h.all i hi
  rcases h3 with h3|h3
  ·rcases h2 a h3 with h6 |⟨a',h6,h7⟩
   ·refine⟨fun _=>0,_,.inr (fun _=>rfl),(hup _ h4).combine (r c) hlead,fun q=>?_⟩
    rw[h5,h6,hpr];grind
   ·refine⟨a',_,.inl h6,(hup _ h4).combine (a c) hlead,fun q=>?_⟩
    rw[h5,h7,hpv];grind
  ·exact⟨a,u,.inr h3,hup _ h4,h5⟩
theorem top_pos (n B:Nat):1≤top n B:=by
 rw[top]
 refine nd_pos.2 ?_
 have h:0<cap n B:=Nat.pow_pos (Nat.succ_pos _)
 omega
theorem GjAt.rest_size (h:GjAt n B rows m c ld L R O A) (hb:∀ i q,(rows i q).natAbs≤B) {a:Nat→Rat} (ha:A a) (q:Nat):hq (a q)≤top n B:=by
 obtain⟨h3,i,hi,u,hu,he⟩:=h.rest a ha
 obtain⟨k,N,hk,hkc,hN,hE⟩:=h.inv.height (rows i) (hb i) a c u hu he h3
 rw[rat_of_mul hk (hE q)]
 exact hq_over hk (nd_top1 h.le (hN _)) (nd_top2 h.le hkc)
theorem RSp.high {u:Nat→Rat} (hu:RSp rows m u) (h0:∀ i q,n≤q→rows i q=0) (q:Nat) (hq:n≤q):u q=0:=by
 obtain⟨z,hz⟩:=hu
 rw[hz]
 exact sumQ_zero (fun i _=>by rw[h0 i q hq];have:((0:Int):Rat)=0:=rfl;rw[this];grind)
theorem GjAt.unit (h:GjAt n B rows m c ld L R O A) (h0:∀ i q,n≤q→rows i q=0) {p:Nat} (hp:ld p=true) (q:Nat):unitQ p q=sumQ (fun f=>(if ld f then 0 else -(O p f))*L f q) n+O p q:=by
 obtain⟨h1,h2,h3⟩:=h.out p hp
 have hpn:p<n:=Nat.lt_of_lt_of_le (h.lt p hp) h.le
 rw[unitQ]
 by_cases hqn:q<n
 ·have e1:sumQ (fun f=>(if ld f then 0 else -(O p f))*L f q) n=(if ld q then 0 else -(O p q)):=by
   rw[sumQ_single hqn (fun i _ hne=>?_)]
   ·cases hl:ld q with
    | true=>simp
    | false=>rw[h.inv.one];simp
   ·cases hl:ld i with
    | true=>simp
    | false=>rw[h.inv.free i hl,show(if q=i then(1:Rat)else 0)=0 from if_neg (fun e=>hne e.symm)];exact Rat.mul_zero _
  rw[e1]
  cases hl:ld q with
  | true=>
   by_cases e:q=p
   ·rw[if_pos e,e,h2];simp;grind
   ·rw[if_neg e,h3 q hl e];simp;grind
  | false=>
   have e:q≠p:=fun e=>by rw[e,hp]at hl;cases hl
   rw[if_neg e];simp;grind
 ·rw[if_neg (by omega),RSp.high (h.rest_sp h1) h0 q (by omega),sumQ_zero (fun i hi=>?_)]
  ·grind
  ·cases hl:ld i with
   | true=>simp
   | false=>rw[h.inv.free i hl,show(if q=i then(1:Rat)else 0)=0 from if_neg (by omega)];exact Rat.mul_zero _
theorem GjAt.out_size (h:GjAt n B rows m c ld L R O A) (hB:1≤B) (h0:∀ i q,n≤q→rows i q=0) {p:Nat} (hp:ld p=true) (q:Nat):hq (O p q)≤top n B:=by
 obtain⟨h1,h2,h3⟩:=h.out p hp
 by_cases hqn:q<n
 ·cases hl:ld q with
  | true=>
   by_cases e:q=p
   ·rw[e,h2,hq_one];exact top_pos n B
   ·rw[h3 q hl e,hq_zero];exact top_pos n B
  | false=>
   obtain⟨k,N,hk,hkc,hN,hE⟩:=h.inv.coords (unitZ p) (fun q=>by rw[unitZ];split <;> simp <;> omega) n (fun f=>-(O p f)) (O p) (h1.mono h.le) (fun q=>by
    rw[← h.unit h0 hp q,unitZ,unitQ];split <;> rfl)
   have h4:=hE q hqn hl
   rw[← hq_neg,rat_of_mul hk h4]
   exact hq_over hk (nd_top2 (Nat.le_refl _) (hN q hqn)) (nd_top2 (Nat.le_refl _) hkc)
 ·rw[RSp.high (h.rest_sp h1) h0 q (by omega),hq_zero];exact top_pos n B
theorem GjAt.done (h:GjAt n B rows m c ld L R O A) (h0:∀ i q,n≤q→rows i q=0) (he:c=n∨∀ a,¬ A a) (i:Nat) (hi:i<m):Sp ld L n (fun q=>(rows i q:Rat)):=by
 obtain⟨a,u,h1,h2,h3⟩:=h.all i hi
 refine(h2.mono h.le).congr (fun q=>?_)
 have ha:a q=0:=by
  rcases h1 with h1|h1
  ·rcases he with he|he
   ·by_cases hq:q<n
    ·exact(h.rest a h1).1 q (by omega)
    ·have h4:=h3 q
     rw[h0 i q (by omega),RSp.high (h.rest_sp h2) h0 q (by omega)]at h4
     have:((0:Int):Rat)=0:=rfl
     rw[this]at h4
     grind
   ·exact absurd h1 (he a)
  ·exact h1 q
 rw[h3,ha];grind
end
end Eli
end Go.Proofs.YtenlbhlllgppmaaGreatDoor
namespace Go.Proofs.YtenlbhlllgppmaaGreatDoor
open Go.RowKit Eli
def pvs (ld:Nat→Bool) (c:Nat):List Nat:=(List.range c).filter ld
theorem pvs_succ (ld:Nat→Bool) (c:Nat):pvs ld (c+1)=if ld c then pvs ld c++[c]else pvs ld c:=by
 rw[pvs,List.range_succ,List.filter_append,List.filter_cons]
 cases ld c with
 | true=>rfl
 | false=>exact List.append_nil _
theorem pvs_congr {ld ld':Nat→Bool} {c:Nat} (h:∀ j,j<c→ld' j=ld j):pvs ld' c=pvs ld c:=List.filter_congr (fun j hj=>h j (List.mem_range.1 hj))
theorem pvs_mem {ld:Nat→Bool} {c p:Nat}:p∈pvs ld c↔p<c∧ld p=true:=by rw[pvs,List.mem_filter,List.mem_range]
def clr (pv:Nat→Rat) (c:Nat) (x:Nat→Rat):Nat→Rat:=fun q=>x q+-(x c)*pv q
theorem OwnG.all {l:List (Nat→Rat)} {N:Nat} {w:World} {B:Nat} {v:Value} {xs:List Value} (h1:OwnK SliceV w B 30 1 v l.length xs) (h2:∀ (j:Nat) x,l[j]?=some x→∃ vr,xs[j]?=some vr∧RowV x N w vr):∀ u∈xs,SliceV u:=by
 intro u hu
 obtain⟨j,hj,e⟩:=List.getElem_of_mem hu
 have hl:xs.length=l.length:=by have:=h1.1.1;omega
 obtain⟨vr,e1,⟨p,c,e2⟩,_⟩:=h2 j l[j] (List.getElem?_eq_getElem (by omega))
 rw[List.getElem?_eq_getElem hj,e]at e1
 injection e1 with e1
 exact⟨p,N,c,e1.trans e2⟩
theorem SliceV.one {u:Value} (h:SliceV u):u.oneCell'=true:=by
 obtain⟨p,n,c,rfl⟩:=h
 rfl
theorem OwnG.val {l:List (Nat→Rat)} {N:Nat} {w:World} {B:Nat} {v:Value} (h:OwnG l N w B v):∃ p c,v=.slice p l.length c:=by
 obtain⟨xs,h1,_⟩:=h
 exact own_slice h1.1
theorem OwnN.val {l:List Nat} {w:World} {B:Nat} {v:Value} (h:OwnN l w B v):∃ p c,v=.slice p l.length c:=own_slice h.1
theorem OwnG.base {l:List (Nat→Rat)} {N:Nat} {w:World} {B B':Nat} {v:Value} (h:OwnG l N w B v) (hB:B'≤B):OwnG l N w B' v:=by
 obtain⟨xs,h1,h2⟩:=h
 refine⟨xs,⟨⟨h1.1.1,?_⟩,h1.2⟩,h2⟩
 rcases h1.1.2 with h |⟨g',cap,cs,e,hB',hr⟩
 ·exact .inl h
 ·exact .inr ⟨g',cap,cs,e,Nat.le_trans hB hB',hr⟩
theorem OwnG.ge {l:List (Nat→Rat)} {N:Nat} {w:World} {B g:Nat} {v:Value} (h:OwnG l N w B v) (e:v.ownBlock=some g):B≤g∧g<w.heap.size:=by
 obtain⟨xs,h1,_⟩:=h
 exact⟨own_ge h1.1 e.symm,(h1.2 g e).1⟩
theorem OwnN.ge {l:List Nat} {w:World} {B g:Nat} {v:Value} (h:OwnN l w B v) (e:v.ownBlock=some g):B≤g∧g<w.heap.size:=⟨own_ge h.1 e.symm,(h.2 g e).1⟩
theorem OwnK.but {K:Value→Prop} {w w':World} {B E sz n:Nat} {v:Value} {xs:List Value} {R:Option Nat} (h:OwnK K w B E sz v n xs) (hg:w.grownBy w' R) (hne:∀ g,v.ownBlock=some g→R≠some g):OwnK K w' B E sz v n xs:=by
 refine⟨h.1.kept hg ?_,fun g e=>?_⟩
 ·cases hv:v.ownBlock with
  | none=>exact .inl rfl
  | some g=>exact .inr (fun e=>hne g hv e.symm)
 ·have hs:=h.2 g e
  have hb:=hg.block g hs.1 (fun e2=>hne g e e2.symm)
  exact⟨Nat.lt_of_lt_of_le hs.1 hg.size,fun i u hu=>hs.2 i u ((World.cell?_of_block (a:=⟨g,i,none⟩) hb).symm.trans hu)⟩
theorem OwnG.but {l:List (Nat→Rat)} {N:Nat} {w w':World} {B:Nat} {v:Value} {R:Option Nat} (h:OwnG l N w B v) (hs:∀ r,R=some r→Stk SliceV w r) (hg:w.grownBy w' R) (h32:I32 w w') (hne:∀ g,v.ownBlock=some g→R≠some g):OwnG l N w' B v:=by
 obtain⟨xs,h1,h2⟩:=h
 exact⟨xs,h1.but hg hne,fun j x hx=>by obtain⟨vr,e,hr⟩:=h2 j x hx;exact⟨vr,e,hr.grown hs hg h32⟩⟩
end Go.Proofs.YtenlbhlllgppmaaGreatDoor
namespace Go.Proofs.YtenlbhlllgppmaaGreatDoor
open Go.RowKit
namespace Eli
def inF (F:Nat→Nat→Rat) (a m:Nat):(Nat→Rat)→Prop:=fun x=>∃ i,a≤i∧i<m∧∀ q,x q=F i q
structure GridAt (n B:Nat) (rows:Nat→Nat→Int) (m c t:Nat) (F:Nat→Nat→Rat) (ld:Nat→Bool) (L:Nat→Nat→Rat) (R:Nat→Nat→Int) (O:Nat→Nat→Rat):Prop where
 gj:GjAt n B rows m c ld L R O (inF F t m)
 len:(pvs ld c).length=t
 lo:∀ k p,(pvs ld c)[k]?=some p→∀ q,F k q=O p q
 le:t≤m
def swp {α:Type} (F:Nat→α) (a b:Nat):Nat→α:=fun i=>if i=a then F b else if i=b then F a else F i
def pvt (x:Nat→Rat) (c:Nat):Nat→Rat:=fun q=>1 / x c*x q
def putR (F:Nat→Nat→Rat) (t:Nat) (f:Nat→Rat):Nat→Nat→Rat:=fun i=>if i=t then f else F i
def clg (F:Nat→Nat→Rat) (pv:Nat→Rat) (c t k:Nat):Nat→Nat→Rat:=fun i=>if i<k∧i≠t then clr pv c (F i)else F i
section
variable {n B m c t:Nat} {rows:Nat→Nat→Int} {F:Nat→Nat→Rat} {ld:Nat→Bool} {L:Nat→Nat→Rat} {R:Nat→Nat→Int} {O:Nat→Nat→Rat}
theorem GridAt.start (hB:1≤B) (hF:∀ i q,F i q=(rows i q:Rat)):GridAt n B rows m 0 0 F (fun _=>false) unitQ unitZ (fun _ _=>0) where
 gj:=(GjAt.start hB).same_rest (fun a ⟨i,_,h2,e⟩=>⟨_,⟨i,h2,fun _=>rfl⟩,fun q=>by rw[e,hF]⟩) (fun a ⟨i,hi,e⟩=>⟨F i,⟨i,Nat.zero_le _,hi,fun _=>rfl⟩,fun q=>by rw[e,hF]⟩)
 len:=rfl
 lo:=fun k p h=>by simp[pvs]at h
 le:=Nat.zero_le _
theorem GridAt.skip (h:GridAt n B rows m c t F ld L R O) (hc:c<n) (h0:∀ i,t≤i→i<m→F i c=0):GridAt n B rows m (c+1) t F ld L R O:=by
 have e:pvs ld (c+1)=pvs ld c:=by rw[pvs_succ,if_neg (fun hl=>by have:=h.gj.lt c hl;omega)]
 exact⟨h.gj.skip hc (fun a ⟨i,h1,h2,e⟩=>by rw[e];exact h0 i h1 h2),by rw[e];exact h.len,by rw[e];exact h.lo,h.le⟩
theorem GridAt.zero (h:GridAt n B rows m c t F ld L R O) {i:Nat} (h1:t≤i) (h2:i<m) (q:Nat) (hq:q<c):F i q=0:=(h.gj.rest (F i) ⟨i,h1,h2,fun _=>rfl⟩).1 q hq
theorem GridAt.size (h:GridAt n B rows m c t F ld L R O) (hB:1≤B) (hb:∀ i q,(rows i q).natAbs≤B) (h0:∀ i q,n≤q→rows i q=0) {i:Nat} (hi:i<m) (q:Nat):hq (F i q)≤top n B:=by
 by_cases hit:i<t
 ·have hl:i<(pvs ld c).length:=by rw[h.len];exact hit
  have e:=List.getElem?_eq_getElem hl
  rw[h.lo i _ e]
  exact h.gj.out_size hB h0 (pvs_mem.1 (List.getElem_mem hl)).2 q
 ·exact h.gj.rest_size hb ⟨i,by omega,hi,fun _=>rfl⟩ q
theorem GridAt.pivot (h:GridAt n B rows m c t F ld L R O) (hb:∀ i q,(rows i q).natAbs≤B) (hc:c<n) {s:Nat} (hs:t≤s) (hsm:s<m) (h0:F s c≠0):
  ∃ ld' L' R' O',GridAt n B rows m (c+1) (t+1) (clg (putR (swp F t s) t (pvt (F s) c)) (pvt (F s) c) c t m) ld' L' R' O'∧pvs ld' (c+1)=pvs ld c++[c]:=by
 obtain⟨F3,hF3⟩:∃ F3,F3=clg (putR (swp F t s) t (pvt (F s) c)) (pvt (F s) c) c t m:=⟨_,rfl⟩
 have k1:∀ i,i<m→i≠t→i≠s→F3 i=clr (pvt (F s) c) c (F i):=fun i h1 h2 h3=>by
  rw[hF3,clg,if_pos ⟨h1,h2⟩,putR,if_neg h2,swp,if_neg h2,if_neg h3]
 have k2:s≠t→F3 s=clr (pvt (F s) c) c (F t):=fun h2=>by
  rw[hF3,clg,if_pos ⟨hsm,h2⟩,putR,if_neg h2,swp,if_neg h2,if_pos rfl]
 have k3:F3 t=pvt (F s) c:=by rw[hF3,clg,if_neg (fun h=>h.2 rfl),putR,if_pos rfl]
 have hcl:∀ j,j<c→(ld j||decide (j=c))=ld j:=fun j hj=>by rw[decide_eq_false (by omega),Bool.or_false]
 rw[← hF3]
 obtain⟨L',R',hg⟩:=h.gj.pivot hb hc (r:=F s) ⟨s,hs,hsm,fun _=>rfl⟩ h0 (A':=inF F3 (t+1) m) (O':=fun p=>if p=c then pvt (F s) c else clr (pvt (F s) c) c (O p)) (ld':=fun j=>ld j||decide (j=c)) (fun _=>rfl)
  (fun a' ⟨i,h1,h2,e⟩=>by
   by_cases his:i=s
   ·subst his
    exact⟨F t,⟨t,Nat.le_refl _,by omega,fun _=>rfl⟩,fun q=>by rw[e,k2 (by omega),clr,pvt]⟩
   ·exact⟨F i,⟨i,by omega,h2,fun _=>rfl⟩,fun q=>by rw[e,k1 i h2 (by omega) his,clr,pvt]⟩)
  (fun a ⟨i,h1,h2,e⟩=>by
   by_cases his:i=s
   ·subst his;exact .inl e
   ·right
    by_cases hit:i=t
    ·exact⟨F3 s,⟨s,by omega,hsm,fun _=>rfl⟩,fun q=>by rw[k2 (by omega),clr,pvt,e,e,hit]⟩
    ·exact⟨F3 i,⟨i,by omega,h2,fun _=>rfl⟩,fun q=>by rw[k1 i h2 hit his,clr,pvt,e,e]⟩)
  (fun q=>by simp[pvt]) (fun p hp q=>by
   have:p≠c:=by have:=h.gj.lt p hp;omega
   simp only[if_neg this]
   rw[clr,pvt])
 have hps:pvs (fun j=>ld j||decide (j=c)) (c+1)=pvs ld c++[c]:=by
  rw[pvs_succ,if_pos (by simp),pvs_congr hcl]
 refine⟨_,L',R',_,⟨hg,by rw[hps,List.length_append,h.len];rfl,fun k p hk q=>?_,by omega⟩,hps⟩
 rw[hps]at hk
 by_cases hkt:k<t
 ·rw[List.getElem?_append_left (by rw[h.len];exact hkt)]at hk
  have:p≠c:=by have:=(pvs_mem.1 (List.mem_of_getElem? hk)).1;omega
  rw[k1 k (by omega) (by omega) (by omega)]
  simp only[if_neg this]
  rw[clr,clr,h.lo k p hk,h.lo k p hk]
 ·rw[List.getElem?_append_right (by rw[h.len];omega),h.len]at hk
  have hk0:k - t=0:=by
   rcases Nat.eq_zero_or_pos (k - t)with h1|h1
   ·exact h1
   ·rw[List.getElem?_eq_none (by rw[List.length_singleton];omega)]at hk;cases hk
  rw[hk0]at hk
  injection hk with hk
  obtain rfl:k=t:=by omega
  rw[k3,← hk];simp
end
end Eli
open Eli
structure GM (F:Nat→Nat→Rat) (m C:Nat) (w:World) (G:Nat) (gs:Nat→Nat) (B:Nat):Prop where
 stk:Stk SliceV w G
 free:∀ i,w.frozen? ⟨G,i,none⟩=false
 hB:B≤G
 at_:∀ i,i<m→w.cell? ⟨G,i,none⟩=some (.slice (some ⟨gs i,0,none⟩) C C)
 row:∀ i,i<m→QRow (fun q=>IsQ (F i q)) w (gs i) C C
 ge:∀ i,i<m→B≤gs i
 ne:∀ i,i<m→gs i≠G
 inj:∀ i j,i<m→j<m→gs i=gs j→i=j
section
variable {F:Nat→Nat→Rat} {m C:Nat} {w:World} {G:Nat} {gs:Nat→Nat} {B:Nat}
theorem GM.keep {w':World} (h:GM F m C w G gs B) (hb:Below w.heap.size w w'):GM F m C w' G gs B:=
 ⟨h.stk.next hb,fun i=>(World.frozen?_of_block (a:=⟨G,i,none⟩) (hb.block G h.stk.1)).trans (h.free i),h.hB,fun i hi=>cell_next hb (h.at_ i hi),fun i hi=>(h.row i hi).keep (fun _=>IsQ.solid _) hb,h.ge,h.ne,h.inj⟩
theorem GM.congr {F':Nat→Nat→Rat} (h:GM F m C w G gs B) (e:∀ i q,i<m→q<C→F' i q=F i q):GM F' m C w G gs B:=
 ⟨h.stk,h.free,h.hB,h.at_,fun i hi=>(h.row i hi).congr (fun q hq=>by rw[e i q hi hq]),h.ge,h.ne,h.inj⟩
theorem GM.elem (h:GM F m C w G gs B) {i q:Nat} (hi:i<m) (hq:q<C):QE (IsQ (F i q)) w (gs i) (q*4):=(h.row i hi).val q hq
theorem GM.put {w':World} (h:GM F m C w G gs B) {i:Nat} (hi:i<m) {f:Nat→Rat} (hr:QRow (fun q=>IsQ (f q)) w' (gs i) C C) (hg:w.grownBy w' (some (gs i))) (h32:I32 w w'):GM (putR F i f) m C w' G gs B:=by
 have hG:(some G:Option Nat)≠some (gs i):=fun e=>h.ne i hi (by injection e with e;exact e.symm)
 have hbk:w'.heap[G]?=w.heap[G]?:=hg.block G h.stk.1 hG
 refine⟨⟨Nat.lt_of_lt_of_le h.stk.1 hg.size,fun k v hv=>h.stk.2 k v ((World.cell?_of_block (a:=⟨G,k,none⟩) hbk).symm.trans hv)⟩,fun k=>(World.frozen?_of_block (a:=⟨G,k,none⟩) hbk).trans (h.free k),h.hB,fun k hk=>hg.cell (h.at_ k hk) hG,fun k hk=>?_,h.ge,h.ne,h.inj⟩
 by_cases e:k=i
 ·subst e
  simp only[putR,if_pos]
  exact hr
 ·simp only[putR,if_neg e]
  exact(h.row k hk).i32 (fun _=>IsQ.solid _) h32 hg (fun e2=>e (h.inj k i hk hi e2))
theorem GM.more (h:GM F m C w G gs B) {g:Nat} (_hs:(w.cell? ⟨G,m,none⟩).isSome=true) (hr:QRow (fun q=>IsQ (F m q)) w g C C) (hg:B≤g) (hne:g≠G) (hnew:∀ i,i<m→gs i≠g) (hc:w.cell? ⟨G,m,none⟩=some (.slice (some ⟨g,0,none⟩) C C)):
  GM F (m+1) C w G (fun i=>if i=m then g else gs i) B:=by
 have hl:∀ i,i<m+1→i≠m→i<m:=fun i h1 h2=>by omega
 refine⟨h.stk,h.free,h.hB,fun i hi=>?_,fun i hi=>?_,fun i hi=>?_,fun i hi=>?_,fun i j hi hj e=>?_⟩
 ·by_cases e:i=m
  ·rw[if_pos e,e];exact hc
  ·rw[if_neg e];exact h.at_ i (hl i hi e)
 ·by_cases e:i=m
  ·rw[if_pos e,e];exact hr
  ·rw[if_neg e];exact h.row i (hl i hi e)
 ·by_cases e:i=m
  ·rw[if_pos e];exact hg
  ·rw[if_neg e];exact h.ge i (hl i hi e)
 ·by_cases e:i=m
  ·rw[if_pos e];exact hne
  ·rw[if_neg e];exact h.ne i (hl i hi e)
 ·by_cases e1:i=m
  ·by_cases e2:j=m
   ·omega
   ·rw[if_pos e1,if_neg e2]at e
    exact absurd e.symm (hnew j (hl j hj e2))
  ·by_cases e2:j=m
   ·rw[if_neg e1,if_pos e2]at e
    exact absurd e (hnew i (hl i hi e1))
   ·rw[if_neg e1,if_neg e2]at e
    exact h.inj i j (hl i hi e1) (hl j hj e2) e
theorem GM.but {w':World} {R:Nat} (h:GM F m C w G gs B) (h32:I32 w w') (hg:w.grownBy w' (some R)) (hG:G≠R) (hne:∀ i,i<m→gs i≠R):GM F m C w' G gs B:=by
 have hG2:(some G:Option Nat)≠some R:=fun e=>hG (by injection e)
 have hbk:w'.heap[G]?=w.heap[G]?:=hg.block G h.stk.1 hG2
 exact⟨⟨Nat.lt_of_lt_of_le h.stk.1 hg.size,fun k v hv=>h.stk.2 k v ((World.cell?_of_block (a:=⟨G,k,none⟩) hbk).symm.trans hv)⟩,fun k=>(World.frozen?_of_block (a:=⟨G,k,none⟩) hbk).trans (h.free k),h.hB,fun k hk=>hg.cell (h.at_ k hk) hG2,fun k hk=>(h.row k hk).i32 (fun _=>IsQ.solid _) h32 hg (hne k hk),h.ge,h.ne,h.inj⟩
end
end Go.Proofs.YtenlbhlllgppmaaGreatDoor
