/- Elimination with sparse rows: the lists of terms, the rows with leading entries, and how large their entries are. No program in sight. -/
import Derived.Test.YtijgdhijdfgpfaaGreatDoorY16
namespace Go.Proofs.YtijgdhijdfgpfaaGreatDoor
namespace Eli
open Sie
def val:List (Nat×Rat)→Nat→Rat
 | [],_=>0
 | t :: r,q=>(if q=t.1 then t.2 else 0)+val r q
def Ord (n:Nat):Nat→List (Nat×Rat)→Prop
 | _,[]=>True
 | t,x :: r=>t≤x.1∧x.1<n∧x.2≠0∧Ord n (x.1+1) r
theorem Ord.mono {n:Nat}:∀ {t s:Nat} {r:List (Nat×Rat)},Ord n t r→s≤t→Ord n s r
 | _,_,[],_,_=>trivial
 | _,_,_ :: _,h,hs=>⟨Nat.le_trans hs h.1,h.2⟩
theorem val_low {n:Nat}:∀ {t:Nat} {r:List (Nat×Rat)},Ord n t r→∀ q,q<t→val r q=0
 | _,[],_,_,_=>rfl
 | t,x :: r,h,q,hq=>by
  have h1:=h.1
  rw[val,if_neg (by omega),val_low h.2.2.2 q (by omega)]
  grind
theorem val_mem {n:Nat}:∀ {t:Nat} {r:List (Nat×Rat)},Ord n t r→∀ x,x∈r→val r x.1=x.2∧t≤x.1∧x.1<n∧x.2≠0
 | _,[],_,_,hx=>by cases hx
 | t,y :: r,h,x,hx=>by
  rcases List.mem_cons.1 hx with rfl|hx
  ·refine⟨?_,h.1,h.2.1,h.2.2.1⟩
   rw[val,if_pos rfl,val_low h.2.2.2 _ (by omega)]
   grind
  ·obtain⟨h1,h2,h3,h4⟩:=val_mem h.2.2.2 x hx
   have h5:=h.1
   refine⟨?_,by omega,h3,h4⟩
   rw[val,if_neg (by omega),h1]
   grind
def mgo (c:Rat) (p:Nat) (x:Rat) (more:List (Nat×Rat)→List (Nat×Rat)):List (Nat×Rat)→List (Nat×Rat)
 | []=>(p,x) :: more []
 | y :: b=>if p<y.1 then(p,x) :: more (y :: b)else if y.1<p then(y.1,-(c*y.2)) :: mgo c p x more b else if x - c*y.2=0 then more b else(p,x - c*y.2) :: more b
def mrg (c:Rat):List (Nat×Rat)→List (Nat×Rat)→List (Nat×Rat)
 | []=>fun b=>b.map (fun y=>(y.1,-(c*y.2)))
 | x :: a=>mgo c x.1 x.2 (mrg c a)
theorem mrg_nil (c:Rat):mrg c [] []=[]:=rfl
theorem mrg_left (c:Rat) (x:Nat×Rat) (a:List (Nat×Rat)):mrg c (x :: a) []=x :: mrg c a []:=rfl
theorem mrg_right (c:Rat) (y:Nat×Rat) (b:List (Nat×Rat)):mrg c [] (y :: b)=(y.1,-(c*y.2)) :: mrg c [] b:=rfl
theorem mrg_lt (c:Rat) (x y:Nat×Rat) (a b:List (Nat×Rat)) (h:x.1<y.1):mrg c (x :: a) (y :: b)=x :: mrg c a (y :: b):=by
 show mgo c x.1 x.2 (mrg c a) (y :: b)=_
 rw[mgo,if_pos h]
theorem mrg_gt (c:Rat) (x y:Nat×Rat) (a b:List (Nat×Rat)) (h:y.1<x.1):mrg c (x :: a) (y :: b)=(y.1,-(c*y.2)) :: mrg c (x :: a) b:=by
 show mgo c x.1 x.2 (mrg c a) (y :: b)=_
 rw[mgo,if_neg (by omega),if_pos h]
 rfl
theorem mrg_eq0 (c:Rat) (x y:Nat×Rat) (a b:List (Nat×Rat)) (h:x.1=y.1) (h0:x.2 - c*y.2=0):mrg c (x :: a) (y :: b)=mrg c a b:=by
 show mgo c x.1 x.2 (mrg c a) (y :: b)=_
 rw[mgo,if_neg (by omega),if_neg (by omega),if_pos h0]
theorem mrg_eq1 (c:Rat) (x y:Nat×Rat) (a b:List (Nat×Rat)) (h:x.1=y.1) (h0:x.2 - c*y.2≠0):mrg c (x :: a) (y :: b)=(x.1,x.2 - c*y.2) :: mrg c a b:=by
 show mgo c x.1 x.2 (mrg c a) (y :: b)=_
 rw[mgo,if_neg (by omega),if_neg (by omega),if_neg h0]
theorem val_cons (x:Nat×Rat) (r:List (Nat×Rat)) (q:Nat):val (x :: r) q=(if q=x.1 then x.2 else 0)+val r q:=rfl
theorem val_nil (q:Nat):val [] q=0:=rfl
theorem val_mrg (c:Rat) (q:Nat):∀ (a b:List (Nat×Rat)),val (mrg c a b) q=val a q - c*val b q:=by
 intro a
 induction a with
 | nil=>
  intro b
  induction b with
  | nil=>rw[mrg_nil,val_nil];grind
  | cons y b ih=>
   rw[mrg_right,val_cons,ih,val_cons,val_nil]
   dsimp only
   split <;> grind
 | cons x a iha=>
  intro b
  induction b with
  | nil=>
   rw[mrg_left,val_cons,iha,val_cons,val_nil]
   clear iha
   grind
  | cons y b ihb=>
   have i1:=iha b
   have i2:=iha (y :: b)
   clear iha
   rw[val_cons]at ihb i2
   rcases Nat.lt_trichotomy x.1 y.1 with h|h|h
   ·rw[mrg_lt c x y a b h,val_cons,i2,val_cons,val_cons]
    clear ihb i1 i2
    generalize (if q=x.1 then x.2 else 0)=e1
    generalize (if q=y.1 then y.2 else 0)=e2
    grind
   ·by_cases h0:x.2 - c*y.2=0
    ·rw[mrg_eq0 c x y a b h h0,i1,val_cons,val_cons,h]
     clear ihb i1 i2
     by_cases e:q=y.1
     ·rw[if_pos e,if_pos e];grind
     ·rw[if_neg e,if_neg e];grind
    ·rw[mrg_eq1 c x y a b h h0,val_cons,i1,val_cons,val_cons,h]
     clear ihb i1 i2
     by_cases e:q=y.1
     ·rw[if_pos e,if_pos e];grind
     ·rw[if_neg e,if_neg e];grind
   ·rw[mrg_gt c x y a b h,val_cons,ihb,val_cons,val_cons]
    clear ihb i1 i2
    dsimp only
    by_cases e:q=y.1
    ·rw[if_pos e,if_neg (by omega),if_pos e];grind
    ·rw[if_neg e,if_neg e];grind
theorem ord_mrg {n:Nat} {c:Rat} (hc:c≠0):∀ (a b:List (Nat×Rat)) (t:Nat),Ord n t a→Ord n t b→Ord n t (mrg c a b):=by
 have hne:∀ y:Rat,y≠0→-(c*y)≠0:=fun y hy h=>by
  have h1:c*y=0:=by grind
  rcases Rat.mul_eq_zero.1 h1 with h2|h2
  ·exact hc h2
  ·exact hy h2
 intro a
 induction a with
 | nil=>
  intro b
  induction b with
  | nil=>intro t _ _;exact trivial
  | cons y b ih=>intro t ha hb;rw[mrg_right];exact⟨hb.1,hb.2.1,hne _ hb.2.2.1,ih _ trivial hb.2.2.2⟩
 | cons x a iha=>
  intro b
  induction b with
  | nil=>intro t ha hb;rw[mrg_left];exact⟨ha.1,ha.2.1,ha.2.2.1,iha [] _ ha.2.2.2 trivial⟩
  | cons y b ihb=>
   intro t ha hb
   rcases Nat.lt_trichotomy x.1 y.1 with h|h|h
   ·rw[mrg_lt c x y a b h];exact⟨ha.1,ha.2.1,ha.2.2.1,iha _ _ ha.2.2.2 ⟨h,hb.2⟩⟩
   ·by_cases h0:x.2 - c*y.2=0
    ·rw[mrg_eq0 c x y a b h h0]
     have h1:=ha.1
     exact(iha b (x.1+1) ha.2.2.2 (h▸hb.2.2.2)).mono (by omega)
    ·rw[mrg_eq1 c x y a b h h0]
     exact⟨ha.1,ha.2.1,h0,iha b (x.1+1) ha.2.2.2 (h▸hb.2.2.2)⟩
   ·rw[mrg_gt c x y a b h]
    exact⟨hb.1,hb.2.1,hne _ hb.2.2.1,ihb (y.1+1) ⟨h,ha.2⟩ hb.2.2.2⟩
def spr (f:Nat→Int):Nat→List (Nat×Rat)
 | 0=>[]
 | n+1=>if f n=0 then spr f n else spr f n++[(n,(f n:Rat))]
theorem val_append (a b:List (Nat×Rat)) (q:Nat):val (a++b) q=val a q+val b q:=by
 induction a with
 | nil=>rw[List.nil_append,val];grind
 | cons x a ih=>rw[List.cons_append,val,val,ih];grind
theorem ord_append {n:Nat} {c:Rat} (hn:0<n) (hc:c≠0):∀ (a:List (Nat×Rat)) (t:Nat),Ord (n - 1) t a→t≤n - 1→Ord n t (a++[(n - 1,c)])
 | [],t,_,ht=>⟨ht,by dsimp only;omega,hc,trivial⟩
 | x :: a,t,h,ht=>⟨h.1,by have:=h.2.1;omega,h.2.2.1,ord_append hn hc a _ h.2.2.2 (by have:=h.2.1;omega)⟩
theorem Ord.wide {n n':Nat} (hn:n≤n'):∀ {t:Nat} {r:List (Nat×Rat)},Ord n t r→Ord n' t r
 | _,[],_=>trivial
 | _,_ :: _,h=>⟨h.1,by have:=h.2.1;omega,h.2.2.1,Ord.wide hn h.2.2.2⟩
theorem ord_spr (f:Nat→Int) (n:Nat):Ord n 0 (spr f n):=by
 induction n with
 | zero=>exact trivial
 | succ n ih=>
  rw[spr]
  split
  ·exact ih.wide (Nat.le_succ _)
  ·rename_i h
   exact ord_append (n:=n+1) (Nat.succ_pos _) (by intro h1;exact h (by exact_mod_cast h1)) _ 0 ih (Nat.zero_le _)
theorem val_spr (f:Nat→Int) (n q:Nat):val (spr f n) q=if q<n then(f q:Rat)else 0:=by
 induction n with
 | zero=>rfl
 | succ n ih=>
  rw[spr]
  by_cases h:f n=0
  ·rw[if_pos h,ih]
   by_cases h1:q<n
   ·rw[if_pos h1,if_pos (by omega)]
   ·rw[if_neg h1]
    by_cases h2:q=n
    ·rw[if_pos (by omega),h2,h];rfl
    ·rw[if_neg (by omega)]
  ·rw[if_neg h,val_append,ih,val,val]
   by_cases h2:q=n
   ·rw[if_neg (by omega),if_pos h2,if_pos (by omega),h2];grind
   ·rw[if_neg h2]
    by_cases h1:q<n
    ·rw[if_pos h1,if_pos (by omega)];grind
    ·rw[if_neg h1,if_neg (by omega)];grind
def red (leads:Nat→List (Nat×Rat)):List (Nat×Rat)→List (Nat×Rat)
 | []=>[]
 | x :: r=>if leads x.1=[]then x :: r else mrg x.2 (x :: r) (leads x.1)
def redN (leads:Nat→List (Nat×Rat)):Nat→List (Nat×Rat)→List (Nat×Rat)
 | 0,r=>r
 | k+1,r=>red leads (redN leads k r)
def scl:List (Nat×Rat)→List (Nat×Rat)
 | []=>[]
 | x :: r=>(x :: r).map (fun y=>(y.1,1 / x.2*y.2))
def put (leads:Nat→List (Nat×Rat)) (r:List (Nat×Rat)):Nat→List (Nat×Rat):=
 match r with
 | []=>leads
 | x :: r=>fun j=>if j=x.1 then scl (x :: r)else leads j
def elim (n:Nat) (rows:Nat→Nat→Int):Nat→Nat→List (Nat×Rat)
 | 0=>fun _=>[]
 | i+1=>put (elim n rows i) (redN (elim n rows i) n (spr (rows i) n))
def ldOf (leads:Nat→List (Nat×Rat)) (j:Nat):Bool:=!(leads j).isEmpty
def rowOf (leads:Nat→List (Nat×Rat)) (j q:Nat):Rat:=if ldOf leads j then val (leads j) q else if q=j then 1 else 0
theorem ldOf_false {leads:Nat→List (Nat×Rat)} {j:Nat} (h:leads j=[]):ldOf leads j=false:=by rw[ldOf,h];rfl
theorem ldOf_true {leads:Nat→List (Nat×Rat)} {j:Nat} (h:leads j≠[]):ldOf leads j=true:=by
 rw[ldOf]
 cases e:leads j with
 | nil=>exact absurd e h
 | cons x r=>rfl
def top (n B:Nat):Nat:=nd ((n+1)*(B*cap n B)+cap n B)
structure Good (n B:Nat) (leads:Nat→List (Nat×Rat)):Prop where
 inv:∃ R,Inv B (ldOf leads) (rowOf leads) R
 ord:∀ j,Ord n j (leads j)
 head:∀ j,leads j=[]∨∃ r,leads j=(j,1) :: r
 size:∀ j x,x∈leads j→hq x.2≤top n B
def RowOk (n:Nat) (leads:Nat→List (Nat×Rat)) (v:Nat→Int) (t:Nat) (r:List (Nat×Rat)):Prop:=
 Ord n t r∧∃ u,Sp (ldOf leads) (rowOf leads) t u∧∀ q,(v q:Rat)=val r q+u q
theorem cap_mono {t n B:Nat} (h:t≤n):cap t B≤cap n B:=by
 have h1:2*(t+1)*B+1≤2*(n+1)*B+1:=by
  have:=Nat.mul_le_mul_right B (show 2*(t+1)≤2*(n+1)by omega)
  omega
 exact Nat.le_trans (Nat.pow_le_pow_left h1 t) (Nat.pow_le_pow_right (Nat.succ_pos _) h)
theorem nd_top1 {n B t k:Nat} (ht:t≤n) (hk:k≤(t+1)*(B*cap t B)):nd k≤top n B:=by
 refine nd_mono (Nat.le_trans hk (Nat.le_trans ?_ (Nat.le_add_right _ _)))
 exact Nat.mul_le_mul (by omega) (Nat.mul_le_mul_left _ (cap_mono ht))
theorem nd_top2 {n B t k:Nat} (ht:t≤n) (hk:k≤cap t B):nd k≤top n B:=
 nd_mono (Nat.le_trans hk (Nat.le_trans (cap_mono ht) (Nat.le_add_left _ _)))
theorem rat_of_mul {m N:Int} {r:Rat} (hm:m≠0) (h:(m:Rat)*r=(N:Rat)):r=Rat.divInt N m:=by
 have h1:(m:Rat)≠0:=fun e=>hm (by exact_mod_cast e)
 rw[Rat.divInt_eq_div]
 grind
theorem Ord.top {n:Nat}:∀ {t:Nat} {r:List (Nat×Rat)},Ord n t r→n≤t→r=[]
 | _,[],_,_=>rfl
 | _,x :: r,h,ht=>by have h1:=h.1;have h2:=h.2.1;omega
theorem RowOk.size {n B:Nat} {leads:Nat→List (Nat×Rat)} {v:Nat→Int} {t:Nat} {r:List (Nat×Rat)} (hr:RowOk n leads v t r) (h:Good n B leads) (hv:∀ q,(v q).natAbs≤B):
  (∀ x,x∈r→hq x.2≤top n B)∧∀ x y,x∈r→y∈r→hq (1 / x.2*y.2)≤top n B:=by
 obtain⟨R,hi⟩:=h.inv
 obtain⟨ho,u,hu,he⟩:=hr
 by_cases ht:n≤t
 ·rw[ho.top ht]
  refine⟨fun x hx=>?_,fun x y hx _=>?_⟩ <;> cases hx
 ·obtain⟨m,N,hm,hmc,hN,hE⟩:=hi.height v hv (val r) t u hu he (val_low ho)
  have hmr:(m:Rat)≠0:=fun e=>hm (by exact_mod_cast e)
  refine⟨fun x hx=>?_,fun x y hx hy=>?_⟩
  ·have h1:=hE x.1
   rw[(val_mem ho x hx).1]at h1
   rw[rat_of_mul hm h1]
   exact hq_over hm (nd_top1 (by omega) (hN _)) (nd_top2 (by omega) hmc)
  ·have h1:=hE x.1
   have h2:=hE y.1
   obtain⟨e1,_,_,h4⟩:=val_mem ho x hx
   rw[e1]at h1
   rw[(val_mem ho y hy).1]at h2
   have h3:N x.1≠0:=fun e=>by
    rw[e]at h1
    rcases Rat.mul_eq_zero.1 (h1.trans rfl)with h5|h5
    ·exact hmr h5
    ·exact h4 h5
   have h6:(N x.1:Rat)*(1 / x.2*y.2)=(N y.1:Rat):=by rw[← h1,← h2];grind
   rw[rat_of_mul h3 h6]
   exact hq_over h3 (nd_top1 (by omega) (hN _)) (nd_top1 (by omega) (hN _))
theorem RowOk.first (n:Nat) (leads:Nat→List (Nat×Rat)) (v:Nat→Int) (hv:∀ q,n≤q→v q=0):RowOk n leads v 0 (spr v n):=by
 refine⟨ord_spr v n,fun _=>0,Sp.nil _ _ _,fun q=>?_⟩
 rw[val_spr]
 by_cases h:q<n
 ·rw[if_pos h];grind
 ·rw[if_neg h,hv q (by omega)]
  have:((0:Int):Rat)=0:=rfl
  rw[this];grind
theorem RowOk.step {n B:Nat} {leads:Nat→List (Nat×Rat)} {v:Nat→Int} {t:Nat} {x:Nat×Rat} {r:List (Nat×Rat)} (hr:RowOk n leads v t (x :: r)) (h:Good n B leads) (hl:leads x.1≠[]):
  RowOk n leads v (x.1+1) (red leads (x :: r))∧red leads (x :: r)=mrg x.2 (x :: r) (leads x.1)∧∃ b,leads x.1=(x.1,1) :: b∧mrg x.2 (x :: r) (leads x.1)=mrg x.2 r b:=by
 obtain⟨ho,u,hu,he⟩:=hr
 obtain⟨b,hb⟩:=(h.head x.1).resolve_left hl
 have e1:red leads (x :: r)=mrg x.2 (x :: r) (leads x.1):=by rw[red,if_neg hl]
 have e2:mrg x.2 (x :: r) (leads x.1)=mrg x.2 r b:=by rw[hb];exact mrg_eq0 _ _ _ _ _ rfl (by grind)
 have ho2:=h.ord x.1
 rw[hb]at ho2
 have h1:=ho.1
 refine⟨⟨?_,fun q=>u q+x.2*rowOf leads x.1 q,(hu.mono (by omega)).combine _ (Sp.lead (Nat.lt_succ_self _) (ldOf_true hl)),fun q=>?_⟩,e1,b,hb,e2⟩
 ·rw[e1,e2]
  exact ord_mrg ho.2.2.1 _ _ _ ho.2.2.2 ho2.2.2.2
 ·have e3:rowOf leads x.1 q=val (leads x.1) q:=by rw[rowOf,ldOf_true hl];rfl
  show(v q:Rat)=val (red leads (x :: r)) q+(u q+x.2*rowOf leads x.1 q)
  rw[e1,val_mrg,he,e3]
  grind
theorem red_still {leads:Nat→List (Nat×Rat)} {x:Nat×Rat} {r:List (Nat×Rat)} (hl:leads x.1=[]):red leads (x :: r)=x :: r:=by rw[red,if_pos hl]
theorem RowOk.steps {n B:Nat} {leads:Nat→List (Nat×Rat)} {v:Nat→Int} {r:List (Nat×Rat)} (hr:RowOk n leads v 0 r) (h:Good n B leads) (k:Nat):
  ∃ t,RowOk n leads v t (redN leads k r)∧(k≤t∨red leads (redN leads k r)=redN leads k r):=by
 induction k with
 | zero=>exact⟨0,hr,.inl (Nat.le_refl _)⟩
 | succ k ih=>
  obtain⟨t,h1,h2⟩:=ih
  rw[redN]
  rcases h2 with h2|h2
  ·cases e:redN leads k r with
   | nil=>exact⟨t,by rw[e]at h1;exact h1,.inr rfl⟩
   | cons x r'=>
    rw[e]at h1
    by_cases hl:leads x.1=[]
    ·rw[red_still hl]
     exact⟨t,h1,.inr (red_still hl)⟩
    ·have h3:=h1.1.1
     exact⟨x.1+1,(h1.step h hl).1,.inl (by omega)⟩
  ·rw[h2]
   exact⟨t,h1,.inr h2⟩
theorem redN_still {leads:Nat→List (Nat×Rat)} {r:List (Nat×Rat)} {k:Nat} (h:red leads (redN leads k r)=redN leads k r) (m:Nat) (hm:k≤m):redN leads m r=redN leads k r:=by
 induction m with
 | zero=>obtain rfl:k=0:=by omega
         rfl
 | succ m ih=>
  by_cases e:k=m+1
  ·rw[e]
  ·rw[redN,ih (by omega),h]
theorem RowOk.end_still {n B:Nat} {leads:Nat→List (Nat×Rat)} {v:Nat→Int} {r:List (Nat×Rat)} (hr:RowOk n leads v 0 r) (h:Good n B leads):red leads (redN leads n r)=redN leads n r:=by
 obtain⟨t,h1,h2⟩:=hr.steps h n
 rcases h2 with h2|h2
 ·rw[h1.1.top h2];rfl
 ·exact h2
theorem Sp.turn {ld ld':Nat→Bool} {L L':Nat→Nat→Rat} {t:Nat} {u:Nat→Rat} (hu:Sp ld L t u) (h:∀ j,j<t→ld j=true→ld' j=true∧L' j=L j):Sp ld' L' t u:=by
 obtain⟨z,hz,ez⟩:=hu
 refine⟨z,fun j hj hn=>?_,fun q=>?_⟩
 ·cases e:ld j with
  | false=>exact hz j hj e
  | true=>rw[(h j hj e).1]at hn;cases hn
 ·rw[ez]
  refine sumQ_congr fun j hj=>?_
  cases e:ld j with
  | false=>rw[hz j hj e];grind
  | true=>rw[(h j hj e).2]
theorem val_scl (x:Nat×Rat) (r:List (Nat×Rat)) (q:Nat):val (scl (x :: r)) q=1 / x.2*val (x :: r) q:=by
 rw[scl]
 generalize x :: r=l
 induction l with
 | nil=>rw[List.map_nil,val];grind
 | cons y l ih=>
  rw[List.map_cons,val,val,ih]
  by_cases h:q=y.1
  ·simp only[if_pos h];grind
  ·simp only[if_neg h];grind
theorem ord_scl {n:Nat} {c:Rat} (hc:c≠0):∀ {t:Nat} {l:List (Nat×Rat)},Ord n t l→Ord n t (l.map (fun y=>(y.1,1 / c*y.2)))
 | _,[],_=>trivial
 | _,y :: l,h=>⟨h.1,h.2.1,fun e=>by
   rcases Rat.mul_eq_zero.1 e with h1|h1
   ·exact hc (by grind)
   ·exact h.2.2.1 h1,ord_scl hc h.2.2.2⟩
theorem Good.put {n B:Nat} {leads:Nat→List (Nat×Rat)} {v:Nat→Int} {t:Nat} {r:List (Nat×Rat)} (h:Good n B leads) (hr:RowOk n leads v t r) (hv:∀ q,(v q).natAbs≤B) (hs:red leads r=r):Good n B (Eli.put leads r):=by
 cases r with
 | nil=>exact h
 | cons x r=>
  have hno:leads x.1=[]:=by
   refine Classical.byContradiction fun hl=>?_
   obtain⟨⟨ho,_⟩,_⟩:=hr.step h hl
   rw[hs]at ho
   have:=ho.1
   omega
  obtain⟨_,hsz⟩:=hr.size h hv
  obtain⟨ho,u,hu,he⟩:=hr
  obtain⟨R,hi⟩:=h.inv
  have hx:=ho.2.2.1
  obtain⟨L',hL'⟩:∃ L',Eli.put leads (x :: r)=L':=⟨_,rfl⟩
  have eP:∀ j,L' j=if j=x.1 then scl (x :: r)else leads j:=fun j=>by rw[← hL'];rfl
  have e1:L' x.1=scl (x :: r):=by rw[eP,if_pos rfl]
  have e2:∀ j,j≠x.1→L' j=leads j:=fun j hj=>by rw[eP,if_neg hj]
  have e3:scl (x :: r)≠[]:=by rw[scl];intro e;cases e
  have hld:ldOf L' x.1=true:=ldOf_true (by rw[e1];exact e3)
  have hld2:∀ j,j≠x.1→ldOf L' j=ldOf leads j:=fun j hj=>by rw[ldOf,e2 j hj];rfl
  have hro:∀ j,j≠x.1→rowOf L' j=rowOf leads j:=fun j hj=>by funext q;rw[rowOf,rowOf,hld2 j hj,e2 j hj]
  have hrx:∀ q,rowOf L' x.1 q=1 / x.2*val (x :: r) q:=fun q=>by rw[rowOf,hld,if_pos rfl,e1,val_scl]
  have hkeep:∀ t u,Sp (ldOf leads) (rowOf leads) t u→Sp (ldOf L') (rowOf L') t u:=fun t u hu=>hu.turn fun j _ hl=>by
   have hne:j≠x.1:=fun e=>by rw[e,ldOf_false hno]at hl;cases hl
   exact⟨by rw[hld2 j hne];exact hl,hro j hne⟩
  have hox:Ord n x.1 (x :: r):=⟨Nat.le_refl _,ho.2⟩
  rw[hL']
  refine⟨⟨fun j=>if j=x.1 then v else R j,?_⟩,fun j=>?_,fun j=>?_,fun j y hy=>?_⟩
  ·constructor
   ·intro j q hq
    by_cases e:j=x.1
    ·subst e;rw[hrx,val_low hox q hq];grind
    ·rw[hro j e];exact hi.low j q hq
   ·intro j
    by_cases e:j=x.1
    ·subst e;rw[hrx,(val_mem hox x (List.mem_cons_self ..)).1];grind
    ·rw[hro j e];exact hi.one j
   ·intro j hj q
    have e:j≠x.1:=fun e=>by rw[e,hld]at hj;cases hj
    rw[hro j e];exact hi.free j (by rw[← hld2 j e];exact hj) q
   ·intro j hj q
    have e:j≠x.1:=fun e=>by rw[e,hld]at hj;cases hj
    simp only[if_neg e]
    exact hi.rfree j (by rw[← hld2 j e];exact hj) q
   ·intro p hp
    by_cases e:p=x.1
    ·subst e
     refine⟨x.2,hx,u,(hkeep _ _ (hu.mono ho.1)),fun q=>?_⟩
     rw[if_pos rfl,he,hrx]
     grind
    ·obtain⟨s,h0,u2,hu2,he2⟩:=hi.got p (by rw[← hld2 p e];exact hp)
     refine⟨s,h0,u2,hkeep _ _ hu2,fun q=>?_⟩
     rw[if_neg e,hro p e]
     exact he2 q
   ·intro p q
    show((if p=x.1 then v else R p) q).natAbs≤B
    split
    ·exact hv q
    ·exact hi.bound p q
  ·by_cases e:j=x.1
   ·subst e;rw[e1,scl];exact ord_scl hx hox
   ·rw[e2 j e];exact h.ord j
  ·by_cases e:j=x.1
   ·subst e
    refine .inr ⟨r.map (fun y=>(y.1,1 / x.2*y.2)),?_⟩
    rw[e1,scl,List.map_cons]
    have:1 / x.2*x.2=1:=by grind
    rw[this]
   ·rw[e2 j e];exact h.head j
  ·by_cases e:j=x.1
   ·subst e
    rw[e1,scl]at hy
    obtain⟨z,hz,rfl⟩:=List.mem_map.1 hy
    exact hsz x z (List.mem_cons_self ..) hz
   ·rw[e2 j e]at hy;exact h.size j y hy
theorem Good.nil {n B:Nat} (hB:1≤B):Good n B (fun _=>[]):=
 ⟨⟨fun j q=>if q=j then 1 else 0,by
  have hl:∀ j,ldOf (fun _=>[]) j=false:=fun j=>rfl
  have hr:∀ j q,rowOf (fun _=>[]) j q=if q=j then 1 else 0:=fun j q=>rfl
  constructor
  ·intro j q hq;rw[hr,if_neg (by omega)]
  ·intro j;rw[hr,if_pos rfl]
  ·intro j _ q;rw[hr]
  ·intro j _ q;rfl
  ·intro p hp;rw[hl]at hp;cases hp
  ·intro p q;split
   ·exact hB
   ·exact Nat.zero_le _⟩,fun _=>trivial,fun _=>.inl rfl,fun _ _ hx=>by cases hx⟩
theorem Good.elim {n B:Nat} {rows:Nat→Nat→Int} (hB:1≤B) (hb:∀ i q,(rows i q).natAbs≤B) (h0:∀ i q,n≤q→rows i q=0) (k:Nat):Good n B (elim n rows k):=by
 induction k with
 | zero=>exact Good.nil hB
 | succ k ih=>
  have hr:=RowOk.first n (Eli.elim n rows k) (rows k) (h0 k)
  obtain⟨t,h1,_⟩:=hr.steps ih n
  exact ih.put h1 (hb k) (hr.end_still ih)
end Eli
namespace Eli
open Sie
theorem hq_neg (q:Rat):hq (-q)=hq q:=by rw[hq,hq,Rat.neg_num,Rat.neg_den,Int.natAbs_neg]
theorem hq_zero:hq 0=1:=by rw[hq];decide
theorem hq_one:hq 1=1:=by rw[hq];decide
def tlr (X:Nat→Nat→Rat):List (Nat×Rat)→Nat→Rat
 | [],_=>0
 | t :: r,f=>tlr X r f+-t.2*X t.1 f
def newRow (leads:Nat→List (Nat×Rat)) (X:Nat→Nat→Rat) (j f:Nat):Rat:=
 if leads j=[]then(if f=j then 1 else 0)else tlr X (leads j).tail.reverse f
def crd (leads:Nat→List (Nat×Rat)) (n:Nat):Nat→Nat→Nat→Rat
 | 0=>fun _ _=>0
 | k+1=>fun j=>if j=n - 1 - k then newRow leads (crd leads n k) j else crd leads n k j
theorem tlr_append (X:Nat→Nat→Rat) (a b:List (Nat×Rat)) (f:Nat):tlr X (a++b) f=tlr X a f+tlr X b f:=by
 induction a with
 | nil=>rw[List.nil_append,tlr];grind
 | cons x a ih=>rw[List.cons_append,tlr,tlr,ih];grind
theorem tlr_reverse (X:Nat→Nat→Rat) (a:List (Nat×Rat)) (f:Nat):tlr X a.reverse f=tlr X a f:=by
 induction a with
 | nil=>rfl
 | cons x a ih=>rw[List.reverse_cons,tlr_append,ih,tlr,tlr,tlr];grind
theorem tlr_congr {X Y:Nat→Nat→Rat} {a:List (Nat×Rat)} {f:Nat} (h:∀ x,x∈a→X x.1 f=Y x.1 f):tlr X a f=tlr Y a f:=by
 induction a with
 | nil=>rfl
 | cons x a ih=>rw[tlr,tlr,ih (fun y hy=>h y (List.mem_cons_of_mem _ hy)),h x (List.mem_cons_self ..)]
theorem crd_later (leads:Nat→List (Nat×Rat)) (n:Nat) {k m j:Nat} (hk:k≤m) (hm:m≤n) (hj:n - k≤j):crd leads n m j=crd leads n k j:=by
 induction m with
 | zero=>obtain rfl:k=0:=by omega
         rfl
 | succ m ih=>
  by_cases e:k=m+1
  ·rw[e]
  ·rw[crd]
   simp only
   rw[if_neg (by omega),ih (by omega) (by omega)]
theorem crd_rule {n B:Nat} {leads:Nat→List (Nat×Rat)} (h:Good n B leads) {k j:Nat} (hk:n - j≤k) (hkn:k≤n) (hj:j<n):crd leads n k j=newRow leads (crd leads n k) j:=by
 have h1:crd leads n k j=crd leads n (n - j) j:=crd_later leads n hk hkn (by omega)
 have h2:crd leads n (n - j) j=newRow leads (crd leads n (n - 1 - j)) j:=by
  have e:n - j=(n - 1 - j)+1:=by omega
  rw[e,crd]
  simp only
  rw[if_pos (by omega)]
 rw[h1,h2]
 funext f
 rw[newRow,newRow]
 split
 ·rfl
 ·rename_i hl
  refine tlr_congr fun x hx=>?_
  obtain⟨b,hb⟩:=(h.head j).resolve_left hl
  have ho:=h.ord j
  rw[hb]at ho hx
  rw[List.tail_cons,List.mem_reverse]at hx
  obtain⟨_,h3,h4,_⟩:=val_mem ho.2.2.2 x hx
  dsimp only at h3
  rw[crd_later leads n (k:=n - 1 - j) (m:=k) (by omega) hkn (by omega)]
theorem crd_free {n B:Nat} {leads:Nat→List (Nat×Rat)} (h:Good n B leads) {k j:Nat} (hk:n - j≤k) (hkn:k≤n) (hj:j<n) (hl:leads j=[]) (f:Nat):crd leads n k j f=if f=j then 1 else 0:=by
 rw[crd_rule h hk hkn hj,newRow,if_pos hl]
theorem crd_lead {n B:Nat} {leads:Nat→List (Nat×Rat)} (h:Good n B leads) {k j:Nat} (hk:n - j≤k) (hkn:k≤n) (hj:j<n) (hl:leads j≠[]) (f:Nat):crd leads n k j f=tlr (crd leads n k) (leads j).tail f:=by
 rw[crd_rule h hk hkn hj,newRow,if_neg hl,tlr_reverse]
def Said (n:Nat) (leads:Nat→List (Nat×Rat)) (X:Nat→Nat→Rat) (j:Nat):Prop:=
 ∃ u,Sp (ldOf leads) (rowOf leads) n u∧∀ q,(if q=j then(1:Rat)else 0)=sumQ (fun f=>(if ldOf leads f then 0 else X j f)*rowOf leads f q) n+u q
theorem said_row {n B:Nat} {leads:Nat→List (Nat×Rat)} (h:Good n B leads) (X:Nat→Nat→Rat):∀ (r:List (Nat×Rat)),(∀ x,x∈r→Said n leads X x.1) →
  ∃ u,Sp (ldOf leads) (rowOf leads) n u∧∀ q,val r q=sumQ (fun f=>(if ldOf leads f then 0 else -tlr X r f)*rowOf leads f q) n+u q
 | [],_=>⟨fun _=>0,Sp.nil _ _ _,fun q=>by
   rw[val,sumQ_zero (fun i _=>?_)]
   ·grind
   ·rw[tlr];split <;> grind⟩
 | x :: r,hr=>by
  obtain⟨u,hu,eu⟩:=said_row h X r (fun y hy=>hr y (List.mem_cons_of_mem _ hy))
  obtain⟨w,hw,ew⟩:=hr x (List.mem_cons_self ..)
  refine⟨_,hu.combine x.2 hw,fun q=>?_⟩
  have e1:(if q=x.1 then x.2 else 0)=x.2*(if q=x.1 then(1:Rat)else 0):=by split <;> grind
  have e2:sumQ (fun f=>(if ldOf leads f then 0 else -tlr X (x :: r) f)*rowOf leads f q) n=x.2*sumQ (fun f=>(if ldOf leads f then 0 else X x.1 f)*rowOf leads f q) n+sumQ (fun f=>(if ldOf leads f then 0 else -tlr X r f)*rowOf leads f q) n:=by
   rw[← sumQ_mul,← sumQ_add]
   refine sumQ_congr fun f _=>?_
   rw[tlr]
   split <;> grind
  rw[val_cons,e1,ew,eu,e2]
  grind
theorem said {n B:Nat} {leads:Nat→List (Nat×Rat)} (h:Good n B leads):∀ (m j:Nat),n - j≤m→j<n→∀ k,n - j≤k→k≤n→Said n leads (crd leads n k) j:=by
 intro m
 induction m with
 | zero=>intro j h1 h2;omega
 | succ m ih=>
  intro j hm hj k hk hkn
  by_cases hl:leads j=[]
  ·refine⟨fun _=>0,Sp.nil _ _ _,fun q=>?_⟩
   rw[sumQ_single hj (fun i _ hne=>?_)]
   ·have e1:rowOf leads j q=if q=j then 1 else 0:=by rw[rowOf,ldOf_false hl];rfl
    have e2:(if ldOf leads j=true then(0:Rat)else crd leads n k j j)=1:=by
     rw[ldOf_false hl]
     show crd leads n k j j=1
     rw[crd_free h hk hkn hj hl,if_pos rfl]
    rw[e2,e1]
    clear ih
    grind
   ·clear ih
    split
    ·grind
    ·rw[crd_free h hk hkn hj hl,if_neg hne];grind
  ·obtain⟨b,hb⟩:=(h.head j).resolve_left hl
   have ho:=h.ord j
   rw[hb]at ho
   obtain⟨u,hu,eu⟩:=said_row h (crd leads n k) b (fun x hx=>by
    obtain⟨_,h1,h2,_⟩:=val_mem ho.2.2.2 x hx
    dsimp only at h1
    exact ih x.1 (by omega) h2 k (by omega) hkn)
   have hlead:=Sp.lead (L:=rowOf leads) hj (ldOf_true hl)
   refine⟨_,hlead.combine (-1) hu,fun q=>?_⟩
   have e1:rowOf leads j q=(if q=j then 1 else 0)+val b q:=by rw[rowOf,ldOf_true hl,if_pos rfl,hb,val_cons]
   have e2:sumQ (fun f=>(if ldOf leads f then 0 else crd leads n k j f)*rowOf leads f q) n=-sumQ (fun f=>(if ldOf leads f then 0 else -tlr (crd leads n k) b f)*rowOf leads f q) n:=by
    have e3:-sumQ (fun f=>(if ldOf leads f then 0 else -tlr (crd leads n k) b f)*rowOf leads f q) n=-1*sumQ (fun f=>(if ldOf leads f then 0 else -tlr (crd leads n k) b f)*rowOf leads f q) n:=by grind
    rw[e3,← sumQ_mul]
    refine sumQ_congr fun f _=>?_
    rw[crd_lead h hk hkn hj hl,hb,List.tail_cons]
    split <;> grind
   rw[e1,e2,eu]
   grind
theorem crd_size {n B:Nat} {leads:Nat→List (Nat×Rat)} (hB:1≤B) (h:Good n B leads) {k j f:Nat} (hk:n - j≤k) (hkn:k≤n) (hj:j<n) (hf:f<n) (hl:leads f=[]):hq (crd leads n k j f)≤top n B:=by
 obtain⟨R,hi⟩:=h.inv
 obtain⟨u,hu,eu⟩:=said h n j (by omega) hj k hk hkn
 obtain⟨m,N,hm,hmc,hN,hE⟩:=hi.coords (fun q=>if q=j then 1 else 0) (fun q=>by split <;> simp <;> omega) n (crd leads n k j) u hu (fun q=>by rw[← eu];split <;> rfl)
 rw[rat_of_mul hm (hE f hf (ldOf_false hl))]
 exact hq_over hm (nd_top2 (Nat.le_refl _) (hN f hf)) (nd_top2 (Nat.le_refl _) hmc)
theorem tlr_size {X:Nat→Nat→Rat} {K:Nat} {f:Nat}:∀ (r:List (Nat×Rat)),(∀ x,x∈r→hq x.2≤K)→(∀ x,x∈r→hq (X x.1 f)≤K)→hq (tlr X r f)≤1+r.length*(2*K+1)
 | [],_,_=>by rw[tlr,hq_zero];omega
 | x :: r,h1,h2=>by
  have h3:=tlr_size r (fun y hy=>h1 y (List.mem_cons_of_mem _ hy)) (fun y hy=>h2 y (List.mem_cons_of_mem _ hy))
  have h4:=h1 x (List.mem_cons_self ..)
  have h5:=h2 x (List.mem_cons_self ..)
  have h6:=hq_add (tlr X r f) (-x.2*X x.1 f)
  have h7:=hq_mul (-x.2) (X x.1 f)
  rw[hq_neg]at h7
  rw[tlr,List.length_cons,Nat.succ_mul]
  omega
theorem ord_length {n:Nat}:∀ {t:Nat} {r:List (Nat×Rat)},Ord n t r→r.length≤n - t
 | _,[],_=>Nat.zero_le _
 | _,x :: r,h=>by
  have h1:=ord_length h.2.2.2
  have h2:=h.1
  have h3:=h.2.1
  rw[List.length_cons]
  omega
theorem top_72 {n B:Nat} (hn:n≤72) (hB:B≤16777216):top n B≤80:=by
 have h1:cap n B≤cap 72 16777216:=by
  refine Nat.le_trans (cap_mono hn) (Nat.pow_le_pow_left ?_ 72)
  have:=Nat.mul_le_mul_left (2*(72+1)) hB
  omega
 have h2:(n+1)*(B*cap n B)+cap n B≤(72+1)*(16777216*cap 72 16777216)+cap 72 16777216:=
  Nat.add_le_add (Nat.mul_le_mul (by omega) (Nat.mul_le_mul hB h1)) h1
 exact nd_le.2 (Nat.lt_of_le_of_lt h2 (by decide +kernel))
def frs (leads:Nat→List (Nat×Rat)) (n:Nat):List Nat:=(List.range n).filter (fun j=>(leads j).isEmpty)
theorem frs_succ (leads:Nat→List (Nat×Rat)) (n:Nat):frs leads (n+1)=if leads n=[]then frs leads n++[n]else frs leads n:=by
 rw[frs,List.range_succ,List.filter_append]
 by_cases h:leads n=[]
 ·rw[if_pos h,List.filter_cons,h];rfl
 ·rw[if_neg h,List.filter_cons]
  have:(leads n).isEmpty=false:=by cases e:leads n with
   | nil=>exact absurd e h
   | cons x r=>rfl
  rw[this]
  exact List.append_nil _
theorem frs_mem {leads:Nat→List (Nat×Rat)} {n j:Nat}:j∈frs leads n↔j<n∧leads j=[]:=by
 rw[frs,List.mem_filter,List.mem_range,List.isEmpty_iff]
theorem frs_length (leads:Nat→List (Nat×Rat)) (n:Nat):(frs leads n).length≤n:=by
 have:=List.length_filter_le (fun j=>(leads j).isEmpty) (List.range n)
 rw[List.length_range]at this
 exact this
theorem frs_mono (leads:Nat→List (Nat×Rat)) {j n:Nat} (h:j≤n):∃ l,frs leads n=frs leads j++l:=by
 induction n with
 | zero=>obtain rfl:j=0:=by omega
         exact⟨[],(List.append_nil _).symm⟩
 | succ n ih=>
  by_cases e:j=n+1
  ·subst e;exact⟨[],(List.append_nil _).symm⟩
  ·obtain⟨l,hl⟩:=ih (by omega)
   rw[frs_succ,hl]
   split
   ·exact⟨l++[n],by rw[List.append_assoc]⟩
   ·exact⟨l,rfl⟩
theorem frs_at (leads:Nat→List (Nat×Rat)) {j n:Nat} (h:j<n) (hl:leads j=[]):(frs leads j).length<(frs leads n).length∧(frs leads n)[(frs leads j).length]?=some j:=by
 obtain⟨l,e⟩:=frs_mono leads (j:=j+1) (n:=n) h
 rw[frs_succ,if_pos hl]at e
 constructor
 ·rw[e];simp
 ·rw[e];simp
theorem frs_pairwise (leads:Nat→List (Nat×Rat)) (n:Nat):(frs leads n).Pairwise (· < ·):=by
 rw[frs]
 exact List.Pairwise.filter _ List.pairwise_lt_range
end Eli
end Go.Proofs.YtijgdhijdfgpfaaGreatDoor
