/- The points of the projective line over the integers modulo n, plain: index u n + v. -/
import Derived.Test.YthikonjlgljikaaGreatDoorS06
import Derived.Test.YthikonjlgljikaaGreatDoorS16
import Derived.Test.YthikonjlgljikaaGreatDoorS17
set_option linter.unusedSimpArgs false
set_option maxRecDepth 100000
set_option maxHeartbeats 8000000
namespace Go.Proofs.YthikonjlgljikaaGreatDoor
theorem bez (a b:Nat):∃ x y:Int,(a:Int)*x+b*y=(Nat.gcd a b:Int):=by
 induction a,b using Nat.gcd.induction with
 | H0 n=>exact⟨0,1,by simp⟩
 | H1 m n hm ih=>
  obtain⟨x,y,h⟩:=ih
  refine⟨y - (n / m:Nat)*x,x,?_⟩
  rw[Nat.gcd_rec m n,← h]
  have e:(n:Int)=((n % m:Nat):Int)+m*((n / m:Nat):Int):=by
   have:=Nat.mod_add_div n m
   exact_mod_cast this.symm
  conv=>lhs;rw[e]
  rw[Int.mul_sub,Int.add_mul,← Int.mul_assoc]
  grind
theorem unit_inv (n s:Nat) (hn:0<n) (h:Nat.gcd s n=1):∃ r,1≤r∧r≤n∧Nat.gcd r n=1∧r*s % n=1 % n:=by
 obtain⟨x,y,e⟩:=bez s n
 rw[h]at e
 have hx0:=Int.emod_nonneg x (show(n:Int)≠0 by omega)
 have hx1:=Int.emod_lt_of_pos x (show(0:Int)<n by omega)
 have key:∀ r:Nat,(r:Int) % n=x % n→r*s % n=1 % n:=by
  intro r hr
  have h1:((r*s:Nat):Int) % n=((1:Nat):Int) % n:=by
   rw[show((r*s:Nat):Int)=(r:Int)*s by push_cast;rfl,Int.mul_emod,hr,← Int.mul_emod,← Int.add_mul_emod_self_left (x*s) n y,Int.mul_comm x,e]
  exact_mod_cast h1
 have cop:∀ r:Nat,r*s % n=1 % n→Nat.gcd r n=1:=by
  intro r hr
  have h1:Nat.gcd r n∣r*s % n:=(Nat.dvd_mod_iff (Nat.gcd_dvd_right r n)).2 (Nat.dvd_trans (Nat.gcd_dvd_left r n) (Nat.dvd_mul_right r s))
  rw[hr]at h1
  exact Nat.dvd_one.1 ((Nat.dvd_mod_iff (Nat.gcd_dvd_right r n)).1 h1)
 by_cases h0:(x % n).toNat=0
 ·have hk:=key n (by rw[Int.emod_self];omega)
  exact⟨n,hn,Nat.le_refl _,cop n hk,hk⟩
 ·have hk:=key (x % n).toNat (by rw[Int.toNat_of_nonneg hx0,Int.emod_emod])
  exact⟨(x % n).toNat,by omega,by omega,cop _ hk,hk⟩
def pmul (n s k:Nat):Nat:=s*(k / n) % n*n+s*(k % n) % n
def pok (n k:Nat):Bool:=Nat.gcd (Nat.gcd (k / n) (k % n)) n==1
def pun (n s:Nat):Bool:=Nat.gcd s n==1
def pseen (n:Nat) (l:List Nat) (k:Nat):Bool:=l.any fun a=>(List.range n).any fun i=>pun n (i+1)&&pmul n (i+1) a==k
def pts (n:Nat):Nat→List Nat
 | 0=>[]
 | k+1=>if pok n k && !pseen n (pts n k) k then pts n k++[k]else pts n k
theorem pts_succ (n k:Nat):pts n (k+1)=if pok n k && !pseen n (pts n k) k then pts n k++[k]else pts n k:=rfl
theorem pts_length (n k:Nat):(pts n k).length≤k:=by
 induction k with
 | zero=>exact Nat.le_refl _
 | succ k ih=>
  rw[pts_succ]
  split
  ·rw[List.length_append];simp;exact ih
  ·omega
def plst (n k:Nat):Bool:=(List.range n).all fun i=>!pun n (i+1)||decide (k≤pmul n (i+1) k)
theorem pmul_div {n:Nat} (hn:0<n) (s k:Nat):pmul n s k / n=s*(k / n) % n:=by
 unfold pmul
 rw[Nat.mul_comm,Nat.mul_add_div hn,Nat.div_eq_of_lt (Nat.mod_lt _ hn),Nat.add_zero]
theorem pmul_mod (n s k:Nat):pmul n s k % n=s*(k % n) % n:=by
 unfold pmul
 rw[Nat.mul_comm,Nat.mul_add_mod,Nat.mod_mod]
theorem pmul_lt {n:Nat} (hn:0<n) (s k:Nat):pmul n s k<n*n:=by
 have h1:=Nat.mod_lt (s*(k / n)) hn
 have h2:=Nat.mod_lt (s*(k % n)) hn
 unfold pmul
 calc s*(k / n) % n*n+s*(k % n) % n<s*(k / n) % n*n+n:=by omega
  _=(s*(k / n) % n+1)*n:=by rw[Nat.add_mul,Nat.one_mul]
  _≤n*n:=Nat.mul_le_mul_right _ h1
theorem pmul_comp {n:Nat} (hn:0<n) (s t k:Nat):pmul n s (pmul n t k)=pmul n (s*t) k:=by
 have h1:=pmul_div hn t k
 have h2:=pmul_mod n t k
 unfold pmul at h1 h2 ⊢
 rw[h1,h2]
 rw[Nat.mul_mod_mod,Nat.mul_mod_mod,← Nat.mul_assoc,← Nat.mul_assoc]
theorem pmul_congr {n s t:Nat} (h:s % n=t % n) (k:Nat):pmul n s k=pmul n t k:=by
 unfold pmul
 rw[Nat.mul_mod s,h,← Nat.mul_mod,Nat.mul_mod s (k % n),h,← Nat.mul_mod]
theorem pmul_one {n k:Nat} (hk:k<n*n):pmul n 1 k=k:=by
 have hn:0<n:=by
  rcases Nat.eq_zero_or_pos n with h|h
  ·subst h;simp at hk
  ·exact h
 unfold pmul
 rw[Nat.one_mul,Nat.one_mul,Nat.mod_mod,Nat.mod_eq_of_lt (Nat.div_lt_of_lt_mul hk),Nat.mul_comm,Nat.div_add_mod]
theorem pun_mul {n s t:Nat} (hs:pun n s=true) (ht:pun n t=true):pun n (s*t)=true:=by
 unfold pun at *
 simp only[beq_iff_eq]at *
 exact Nat.Coprime.mul_left hs ht
theorem pun_small {n s:Nat} (hn:0<n) (hs:pun n s=true):∃ r,1≤r∧r≤n∧pun n r=true∧r % n=s % n:=by
 unfold pun at *
 simp only[beq_iff_eq]at *
 have h1:Nat.gcd (s % n) n=1:=by rw[← Nat.gcd_rec,Nat.gcd_comm];exact hs
 by_cases h0:s % n=0
 ·rw[h0,Nat.gcd_zero_left]at h1
  exact⟨n,hn,Nat.le_refl _,by rw[Nat.gcd_self];exact h1,by rw[Nat.mod_self,h0]⟩
 ·exact⟨s % n,by omega,Nat.le_of_lt (Nat.mod_lt _ hn),h1,Nat.mod_mod _ _⟩
theorem pun_inv {n s:Nat} (hn:0<n) (hs:pun n s=true):∃ r,1≤r∧r≤n∧pun n r=true∧r*s % n=1 % n:=by
 obtain⟨r,h1,h2,h3,h4⟩:=unit_inv n s hn (by simpa [pun] using hs)
 exact⟨r,h1,h2,by simp[pun,h3],h4⟩
theorem pmul_inv {n s k:Nat} (hk:k<n*n) (hs:pun n s=true):∃ r,1≤r∧r≤n∧pun n r=true∧pmul n r (pmul n s k)=k:=by
 have hn:0<n:=by
  rcases Nat.eq_zero_or_pos n with h|h
  ·subst h;simp at hk
  ·exact h
 obtain⟨r,h1,h2,h3,h4⟩:=pun_inv hn hs
 exact⟨r,h1,h2,h3,by rw[pmul_comp hn,pmul_congr h4,pmul_one hk]⟩
theorem pok_mul {n s k:Nat} (hn:0<n) (hs:pun n s=true) (hk:pok n k=true):pok n (pmul n s k)=true:=by
 unfold pok pun at *
 simp only[beq_iff_eq]at *
 rw[pmul_div hn,pmul_mod n]
 generalize k / n=u at *
 generalize k % n=v at *
 refine Nat.dvd_one.1 ?_
 have hd:∀ g,g∣s*u % n→g∣s*v % n→g∣n→g∣1:=by
  intro g h1 h2 h3
  have h1:=(Nat.dvd_mod_iff h3).1 h1
  have h2:=(Nat.dvd_mod_iff h3).1 h2
  have hg:Nat.Coprime g s:=by
   have:Nat.gcd g s∣Nat.gcd s n:=Nat.dvd_gcd (Nat.gcd_dvd_right g s) (Nat.dvd_trans (Nat.gcd_dvd_left g s) h3)
   rw[hs]at this
   exact Nat.dvd_one.1 this
  have h1:=Nat.Coprime.dvd_of_dvd_mul_left hg h1
  have h2:=Nat.Coprime.dvd_of_dvd_mul_left hg h2
  rw[← hk]
  exact Nat.dvd_gcd (Nat.dvd_gcd h1 h2) h3
 exact hd _ (Nat.dvd_trans (Nat.gcd_dvd_left _ _) (Nat.gcd_dvd_left _ _)) (Nat.dvd_trans (Nat.gcd_dvd_left _ _) (Nat.gcd_dvd_right _ _)) (Nat.gcd_dvd_right _ _)
theorem plst_iff {n k:Nat}:plst n k=true↔∀ s,1≤s→s≤n→pun n s=true→k≤pmul n s k:=by
 unfold plst
 simp only[List.all_eq_true,List.mem_range,Bool.or_eq_true,Bool.not_eq_true',decide_eq_true_eq]
 constructor
 ·intro h s h1 h2 h3
  have:=h (s - 1) (by omega)
  rw[show s - 1+1=s by omega,h3]at this
  simpa using this
 ·intro h i hi
  cases hu:pun n (i+1)with
  | false=>exact .inl rfl
  | true=>exact .inr (h (i+1) (by omega) (by omega) hu)
theorem pseen_iff {n:Nat} {l:List Nat} {k:Nat}:pseen n l k=true↔∃ a,a∈l∧∃ s,1≤s∧s≤n∧pun n s=true∧pmul n s a=k:=by
 unfold pseen
 simp only[List.any_eq_true,List.mem_range,Bool.and_eq_true,beq_iff_eq]
 constructor
 ·rintro⟨a,ha,i,hi,hu,e⟩
  exact⟨a,ha,i+1,by omega,by omega,hu,e⟩
 ·rintro⟨a,ha,s,h1,h2,hu,e⟩
  exact⟨a,ha,s - 1,by omega,by rw[show s - 1+1=s by omega];exact hu,by rw[show s - 1+1=s by omega];exact e⟩
theorem pts_lt {n:Nat}:∀ {k a:Nat},a∈pts n k→a<k:=by
 intro k
 induction k with
 | zero=>intro a h;simp[pts]at h
 | succ k ih=>
  intro a h
  rw[pts_succ]at h
  split at h
  ·rcases List.mem_append.1 h with h|h
   ·have:=ih h;omega
   ·simp at h;omega
  ·have:=ih h;omega
theorem pts_grow {n a:Nat} {k m:Nat} (hkm:k≤m) (h:a∈pts n k):a∈pts n m:=by
 induction m with
 | zero=>have:k=0:=by omega
         subst this;exact h
 | succ m ih=>
  by_cases e:k=m+1
  ·subst e;exact h
  ·have:=ih (by omega)
   rw[pts_succ]
   split
   ·exact List.mem_append_left _ this
   ·exact this
theorem pts_new {n k:Nat} (h1:pok n k=true) (h2:pseen n (pts n k) k=false):k∈pts n (k+1):=by
 rw[pts_succ]
 rw[if_pos (by rw[h1,h2];rfl)]
 simp
theorem pts_least {n:Nat} (hn:0<n):∀ k,k<n*n→pok n k=true→(pseen n (pts n k) k=false↔plst n k=true):=by
 intro k
 induction k using Nat.strongRecOn with
 | _ k ih=>
  intro hk hok
  constructor
  ·intro hs
   rw[plst_iff]
   intro s h1 h2 hu
   rcases Nat.lt_or_ge (pmul n s k) k with hlt|hge
   ·exfalso
    have hP:∃ m,∃ t,1≤t∧t≤n∧pun n t=true∧pmul n t k=m:=⟨_,s,h1,h2,hu,rfl⟩
    have hmin:∀ m,(∃ t,1≤t∧t≤n∧pun n t=true∧pmul n t k=m)→m<k→False:=by
     intro m
     induction m using Nat.strongRecOn with
     | _ m ihm=>
      rintro⟨t,t1,t2,tu,e⟩ hm
      have hm':m<n*n:=by omega
      by_cases hl:plst n m=true
      ·have hmo:pok n m=true:=by rw[← e];exact pok_mul hn tu hok
       have hms:=(ih m hm hm' hmo).2 hl
       have hmem:=pts_grow (m:=k) hm (pts_new hmo hms)
       obtain⟨r,r1,r2,ru,re⟩:=pmul_inv (k:=k) hk tu
       have:pseen n (pts n k) k=true:=pseen_iff.2 ⟨m,hmem,r,r1,r2,ru,by rw[← e];exact re⟩
       rw[this]at hs;cases hs
      ·rw[plst_iff]at hl
       have:∃ r,1≤r∧r≤n∧pun n r=true∧pmul n r m<m:=by
        refine Classical.byContradiction fun hno=>hl fun r r1 r2 ru=>?_
        exact Nat.le_of_not_lt fun hlt=>hno ⟨r,r1,r2,ru,hlt⟩
       obtain⟨r,r1,r2,ru,hlt'⟩:=this
       obtain⟨q,q1,q2,qu,qe⟩:=pun_small hn (pun_mul ru tu)
       refine ihm (pmul n r m) hlt' ⟨q,q1,q2,qu,?_⟩ (by omega)
       rw[pmul_congr qe,← pmul_comp hn,e]
    exact hmin _ ⟨s,h1,h2,hu,rfl⟩ hlt
   ·exact hge
  ·intro hl
   cases hs:pseen n (pts n k) k with
   | false=>rfl
   | true=>
    exfalso
    obtain⟨a,ha,s,s1,s2,su,e⟩:=pseen_iff.1 hs
    have hak:=pts_lt ha
    obtain⟨r,r1,r2,ru,re⟩:=pmul_inv (k:=a) (by omega) su
    rw[e]at re
    have:=plst_iff.1 hl r r1 r2 ru
    omega
theorem pts_filter {n:Nat} (hn:0<n):∀ k,k≤n*n→pts n k=(List.range k).filter fun a=>pok n a&&plst n a:=by
 intro k
 induction k with
 | zero=>intro _;rfl
 | succ k ih=>
  intro hk
  rw[List.range_succ,List.filter_append,← ih (by omega)]
  rw[pts_succ]
  cases hok:pok n k with
  | false=>simp[hok]
  | true=>
   have h:=pts_least hn k (by omega) hok
   cases hl:plst n k with
   | false=>
    have:pseen n (pts n k) k=true:=by
     cases hs:pseen n (pts n k) k with
     | true=>rfl
     | false=>rw[h.1 hs]at hl;cases hl
    simp[hok,hl,this]
   | true=>
    have:pseen n (pts n k) k=false:=h.2 hl
    simp[hok,hl,this]
def tset (f:Nat→Nat×Int) (k:Nat) (x:Nat×Int):Nat→Nat×Int:=fun i=>if i=k then x else f i
def plRow (n l:Nat) (c:Int) (L:List Nat):Nat→(Nat→Nat×Int)→(Nat→Nat×Int)
 | 0,f=>f
 | j+1,f=>tset (plRow n l c L j f) (pmul n l (L.getD j 0)) (j,c)
def plAll (n:Nat) (D:Int) (L:List Nat):Nat→(Nat→Nat×Int)
 | 0=>fun _=>(0,0)
 | l+1=>if pun n (l+1)then plRow n (l+1) (Pl.kroP D (l+1)) L L.length (plAll n D L l)else plAll n D L l
def TabOk (m:Nat) (f:Nat→Nat×Int):Prop:=∀ k,f k=(0,0)∨(f k).1<m∧((f k).2=0∨(f k).2=1∨(f k).2=-1)
theorem TabOk.set {m:Nat} {f:Nat→Nat×Int} (h:TabOk m f) (k:Nat) (x:Nat×Int) (hx:x.1<m) (hc:x.2=0∨x.2=1∨x.2=-1):TabOk m (tset f k x):=by
 intro i
 unfold tset
 split
 ·exact .inr ⟨hx,hc⟩
 ·exact h i
theorem plRow_ok {n l:Nat} {c:Int} {L:List Nat} (hc:c=0∨c=1∨c=-1) {f:Nat→Nat×Int} (h:TabOk L.length f):∀ j,j≤L.length→TabOk L.length (plRow n l c L j f):=by
 intro j
 induction j with
 | zero=>intro _;exact h
 | succ j ih=>intro hj;exact(ih (by omega)).set _ _ (by exact hj) hc
theorem plAll_ok {n:Nat} {D:Int} {L:List Nat} (hk:∀ l,Pl.kroP D l=0∨Pl.kroP D l=1∨Pl.kroP D l=-1):∀ l,TabOk L.length (plAll n D L l):=by
 intro l
 induction l with
 | zero=>intro k;exact .inl rfl
 | succ l ih=>
  unfold plAll
  split
  ·exact plRow_ok (hk _) ih _ (Nat.le_refl _)
  ·exact ih
abbrev M4:=Int×Int×Int×Int
theorem lin_abs (a b:Int) (p:Nat→Int) (K:Nat) (hp:∀ j,(p j).natAbs≤K) (j:Nat):(lin a b p j).natAbs≤(a.natAbs+b.natAbs)*K:=by
 unfold lin
 have h1:(if 0<j then a*p (j - 1)else 0).natAbs≤a.natAbs*K:=by
  split
  ·rw[Int.natAbs_mul];exact Nat.mul_le_mul_left _ (hp _)
  ·simp
 have h2:(b*p j).natAbs≤b.natAbs*K:=by rw[Int.natAbs_mul];exact Nat.mul_le_mul_left _ (hp _)
 have h3:=Int.natAbs_add_le (if 0<j then a*p (j - 1)else 0) (b*p j)
 rw[Nat.add_mul]
 omega
theorem mv_abs (i:Nat) (a b c d:Int) (h1:a.natAbs+b.natAbs≤2) (h2:c.natAbs+d.natAbs≤2) (k:Nat):∀ j,(mv i a b c d k j).natAbs≤2 ^ k:=by
 induction k with
 | zero=>
  intro j
  show(if j=0 then(1:Int)else 0).natAbs≤1
  split <;> simp
 | succ k ih=>
  intro j
  rw[mv,Nat.pow_succ,Nat.mul_comm (2 ^ k)]
  split
  ·exact Nat.le_trans (lin_abs a b _ _ ih j) (Nat.mul_le_mul_right _ h1)
  ·exact Nat.le_trans (lin_abs c d _ _ ih j) (Nat.mul_le_mul_right _ h2)
theorem lin_times (a b x:Int) (p:Nat→Int) (j:Nat):lin a b (fun j=>x*p j) j=x*lin a b p j:=by
 unfold lin
 split <;> grind
def mvd (n w:Nat) (L:List Nat) (f:Nat→Nat×Int) (i j:Nat) (g:M4):Nat→Int:=
 let u:Int:=(L.getD j 0 / n:Nat)
 let v:Int:=(L.getD j 0 % n:Nat)
 let a:=g.1 % n
 let b:=g.2.1 % n
 let c:=g.2.2.1 % n
 let d:=g.2.2.2 % n
 let p:=f (((u*a+v*c) % n).toNat*n+((u*b+v*d) % n).toNat)
 fun k=>if p.2=0 then 0 else if k % L.length=p.1∧k / L.length≤w then p.2*mv i g.1 g.2.1 g.2.2.1 g.2.2.2 w (k / L.length)else 0
theorem mvd_small {n w:Nat} {L:List Nat} {f:Nat→Nat×Int} {i j:Nat} {g:M4} (hf:TabOk L.length f) (h1:g.1.natAbs+g.2.1.natAbs≤2) (h2:g.2.2.1.natAbs+g.2.2.2.natAbs≤2) (k:Nat):(mvd n w L f i j g k).natAbs≤2 ^ w:=by
 have key:∀ p:Nat×Int,(p=(0,0)∨p.1<L.length∧(p.2=0∨p.2=1∨p.2=-1))→(if p.2=0 then(0:Int)else if k % L.length=p.1∧k / L.length≤w then p.2*mv i g.1 g.2.1 g.2.2.1 g.2.2.2 w (k / L.length)else 0).natAbs≤2 ^ w:=by
  intro p hp
  have hp2:p.2.natAbs≤1:=by rcases hp with rfl |⟨_,h|h|h⟩ <;> simp[*]
  have hm:=mv_abs i g.1 g.2.1 g.2.2.1 g.2.2.2 h1 h2 w (k / L.length)
  split
  ·simp
  split
  ·rw[Int.natAbs_mul]
   exact Nat.le_trans (Nat.mul_le_mul hp2 hm) (by rw[Nat.one_mul];exact Nat.le_refl _)
  ·simp
 exact key _ (hf _)
def gTurn:M4:=(0,-1,1,0)
def gThird:M4:=(0,-1,1,-1)
def gTwice:M4:=(-1,1,-1,0)
def relE (n w:Nat) (L:List Nat) (f:Nat→Nat×Int) (r k:Nat):Int:=
 if r<(w+1)*L.length then(if k=r then 1 else 0)+mvd n w L f (r / L.length) (r % L.length) gTurn k
 else(if k=r - (w+1)*L.length then 1 else 0)+mvd n w L f ((r - (w+1)*L.length) / L.length) ((r - (w+1)*L.length) % L.length) gThird k+mvd n w L f ((r - (w+1)*L.length) / L.length) ((r - (w+1)*L.length) % L.length) gTwice k
theorem relE_small {n w:Nat} {L:List Nat} {f:Nat→Nat×Int} (hf:TabOk L.length f) (hw:w≤22) (r k:Nat):(relE n w L f r k).natAbs≤16777216:=by
 have hp:2 ^ w≤4194304:=Nat.le_trans (Nat.pow_le_pow_right (by decide) hw) (by decide)
 have h1:=fun i j=>mvd_small (n:=n) (w:=w) (i:=i) (j:=j) (g:=gTurn) hf (by decide) (by decide) k
 have h2:=fun i j=>mvd_small (n:=n) (w:=w) (i:=i) (j:=j) (g:=gThird) hf (by decide) (by decide) k
 have h3:=fun i j=>mvd_small (n:=n) (w:=w) (i:=i) (j:=j) (g:=gTwice) hf (by decide) (by decide) k
 unfold relE
 split
 ·have:=h1 (r / L.length) (r % L.length)
  split <;> omega
 ·have a2:=h2 ((r - (w+1)*L.length) / L.length) ((r - (w+1)*L.length) % L.length)
  have a3:=h3 ((r - (w+1)*L.length) / L.length) ((r - (w+1)*L.length) % L.length)
  split <;> omega
def relOf (n w:Nat) (D:Int):Nat→Nat→Int:=relE n w (pts n (n*n)) (plAll n D (pts n (n*n)) n)
end Go.Proofs.YthikonjlgljikaaGreatDoor
namespace Go.Proofs.YthikonjlgljikaaGreatDoor
open Go.RowKit
theorem intZInfo:(Tryz.prog.info? 33).map (fun i=>(i.zero,i.size,i.bytes))=some (some (.agg #[.bool false,.slice none 0 0]),2,32):=by kernel_rfl
theorem makeZ (n:Nat) (h:n≤1000000) (w:World):
  (Instr.makeSlice 74 (.int .i64 (n:Int)) (.int .i64 (n:Int))).run Tryz.prog w=.ok (.slice (some ⟨w.heap.size,0,none⟩) n n) (w.alloc (.cells (madeCells #[.bool false,.slice none 0 0] (n*2)) 33)):=by
 obtain⟨i,hi,hz0,hz1,hz2⟩:=info_parts intZInfo
 have hr:=run_make (P:=Tryz.prog) w 74 33 i _ Tryz.underlying74 hi hz0 .i64 .i64 n n (by omega) (Int.le_refl _) (by rw[hz2];omega) (by omega)
 rw[Int.toNat_natCast,hz1]at hr
 exact hr
theorem madeZ {n i:Nat} {v:Value} (h:(madeCells #[.bool false,.slice none 0 0] n)[i]?=some v):NotInt v:=by
 unfold madeCells at h
 simp only[Array.getElem?_map,Array.getElem?_range]at h
 split at h
 ·simp only[Option.map_some]at h
  injection h with h
  rw[← h]
  have h3:i % 2=0∨i % 2=1:=by omega
  show NotInt ((#[.bool false,.slice none 0 0]:Array Value)[i % 2]!)
  rcases h3 with h3|h3 <;> rw[h3] <;> first|exact NotInt.bool _|exact NotInt.slice _ _ _
 ·cases h
theorem ZRow.made (f:Nat→Int) (w:World) (n:Nat):ZRow f (w.alloc (.cells (madeCells #[.bool false,.slice none 0 0] (n*2)) 33)) w.heap.size n 0:=by
 have hb:=Blk.new w 33 (madeCells #[.bool false,.slice none 0 0] (n*2))
 refine⟨Sts.of hb ?_,fun i _=>hb.free_ i,fun i hi=>?_,fun j hj=>absurd hj (Nat.not_lt_zero _)⟩
 ·intro v hv
  obtain⟨i,hi⟩:=Array.getElem?_of_mem hv
  exact madeZ hi
 ·rw[hb.cell_ i,Array.getElem?_eq_getElem (by rw[size_madeCells];exact hi)];rfl
def VarZ (w:World) (R:Nat) (z:Int):Prop:=∃ s p n c,Blk w R 33 #[.bool s,.slice p n c]∧Zs w s p n c z
theorem below_put2 {g:Nat} {w w':World} (h:Below g w w') {R i j:Nat} (hR:g≤R) {v0 v1:Value}:Below g w ((w'.setCell ⟨R,i,none⟩ v0).setCell ⟨R,j,none⟩ v1):=
 (h.setCell (p:=⟨R,i,none⟩) hR v0).setCell (p:=⟨R,j,none⟩) hR v1
theorem ZRow.var {f:Nat→Int} {w:World} {g N k R:Nat} {s:Bool} {p:Option Addr} {n c:Nat} {s':Bool} {p':Option Addr} {n' c':Nat} (h:ZRow f w g N k) (hR:Blk w R 33 #[.bool s',.slice p' n' c']) (hne:g≠R):ZRow f ((w.setCell ⟨R,0,none⟩ (.bool s)).setCell ⟨R,1,none⟩ (.slice p n c)) g N k:=by
 have hg:=but_put2 w R 0 1 (.bool s) (.slice p n c)
 have hb:((w.setCell ⟨R,0,none⟩ (.bool s)).setCell ⟨R,1,none⟩ (.slice p n c)).heap[g]?=w.heap[g]?:=hg.block g h.sts.1 (fun e=>by injection e with e;exact hne e)
 have h32:=I32.put2 (Sts.box hR) 0 1 (.bool s) (.slice p n c) (NotInt.bool _)
 refine⟨⟨Nat.lt_of_lt_of_le h.sts.1 hg.size,fun i v hv=>h.sts.2 i v ((World.cell?_of_block (a:=⟨g,i,none⟩) hb).symm.trans hv)⟩,fun i hi=>(World.frozen?_of_block (a:=⟨g,i,none⟩) hb).trans (h.free i hi),fun i hi=>by rw[World.cell?_of_block (a:=⟨g,i,none⟩) hb];exact h.has i hi,fun j hj=>?_⟩
 obtain⟨s,p,n,c,e0,e1,e2⟩:=h.val j hj
 exact⟨s,p,n,c,(World.cell?_of_block (a:=⟨g,_,none⟩) hb).trans e0,(World.cell?_of_block (a:=⟨g,_,none⟩) hb).trans e1,e2.i32 h32⟩
theorem c_timesM (v:Value) (m:Nat) (f:Nat→Int) (s:Bool) (p:Option Addr) (n c:Nat) (a:Int) (t:Bool) (q:Option Addr) (m' d:Nat) (b:Int) (w:World) (h:ZL f w v m) (ha:Zs w s p n c a) (hb:Zs w t q m' d b) (h0:0<m) (hm:m≤1000) (hn:n≤10) (hn':m'≤10) (hf:∀ j,nd (f j).natAbs≤1000) (hz:∀ j,m≤j→f j=0):
  Calls Tryz.prog 123 #[v,.agg #[.bool s,.slice p n c],.agg #[.bool t,.slice q m' d]] w fun e w'=>(∃ g,e=.returned (.slice (some ⟨g,0,none⟩) ((m+1:Nat)) ((m+1:Nat)))∧w.heap.size≤g∧ZRow (lin a b f) w' g (m+1) (m+1))∧Below w.heap.size w w':=by
 obtain⟨g1,o1,l1,rfl,hg1,r1⟩:=h.resolve_left (fun h=>by omega)
 have HR0:=Kh r1
 have HF:=Kh hf
 have HZ0:=Kh hz
 have HA:=Kh ha
 have HB:=Kh hb
 obtain⟨N,hN⟩:∃ N,m+1=N:=⟨_,rfl⟩
 have hNi:(m:Int)+1=(N:Nat):=by omega
 have hmk:=makeZ N (by omega)
 rw[hN]
 clear h r1 hf ha hb hz
 go_enter Tryz.func123,Tryz.ntmps123
 go_wp2_with fail
 obtain⟨w0,hw0⟩:∃ w0,(w.alloc (.cells #[.bool s,.slice p n c] 33)).alloc (.cells #[.bool t,.slice q m' d] 33)=w0:=⟨_,rfl⟩
 obtain⟨X0,X1,hb0⟩:=box2 w #[.bool s,.slice p n c] 33 #[.bool t,.slice q m' d] 33
 rw[hw0]at X0 X1 hb0
 have hs0:w0.heap.size=w.heap.size+1+1:=by rw[← hw0];simp
 have hrm:=ZRow.made (lin a b f) w0 N
 obtain⟨wn,hwn⟩:∃ wn,w0.alloc (.cells (madeCells #[.bool false,.slice none 0 0] (N*2)) 33)=wn:=⟨_,rfl⟩
 have hbn:Below w0.heap.size w0 wn:=hwn▸(Below.refl _ _).alloc (Nat.le_refl _) _
 rw[hwn]at hrm
 rw[hw0,hwn]
 obtain⟨gx,hgx⟩:∃ gx,w.heap.size=gx:=⟨_,rfl⟩
 obtain⟨gy,hgy⟩:∃ gy,gx+1=gy:=⟨_,rfl⟩
 obtain⟨g,hg⟩:∃ g,gy+1=g:=⟨_,rfl⟩
 rw[hgx,hgy,hg]at hs0
 rw[hgx]at X0 X1
 rw[hgy]at X1
 rw[hs0]at hrm hbn
 rw[hgx,hgy,hg]
 have HX0:=Kh X0
 have HX1:=Kh X1
 have HBN:=Kh hbn
 have HRM:=Kh hrm
 have hgl:w.heap.size≤g:=by omega
 have hxl:gx<g:=by omega
 have hyl:gy<g:=by omega
 have HW:=Kh hb0
 have HG1:=Kh (show g1<g by omega)
 have HR:=Kh (fun j (hj:j<m)=>ZE.keep (HR0.out j hj) hb0)
 have HAX:=Kh (HA.out.keep hb0)
 have HBX:=Kh (HB.out.keep hb0)
 have HS0:=Kh hs0
 clear X0 X1 hb0 hw0 hwn hrm hbn hg1 hgx hgy hg hs0 hmk HR0 HA HB
 go_loopw [16] (fun i wr=>∃ k:Nat,k≤N∧i=.int .i64 k∧ZRow (lin a b f) wr g N k∧Below g w0 wr) (fun i _=>N - (intOf i).toNat)
 case atStart=>exact⟨0,Nat.zero_le _,rfl,HRM.out,HBN.out⟩
 case round=>
  obtain⟨k,hk,rfl,hrow,hbr⟩:=hrel
  obtain⟨w1,rfl⟩:∃ w1:World,w1=wr:=⟨_,rfl⟩
  have HROW:=Kh hrow
  have HBR:=Kh hbr
  clear hrow hbr HBN HRM
  by_cases hlt:k<N
  ·have hkN:(k:Int)<(N:Int):=by omega
   go_wp2_with fail
   refine(c_Of 0 w1 (by omega) (by omega)).mono ?_
   rintro e w2 ⟨⟨s3,p3,n3,c3,rfl,hz3⟩,hb3⟩
   have hsz2:g<w2.heap.size:=Nat.lt_of_lt_of_le HROW.out.sts.1 hb3.size
   have HROW2:=Kh (ZRow.keep HROW.out hb3)
   have HBR2:=Kh (HBR.out.trans (hb3.mono (Nat.le_of_lt HROW.out.sts.1)))
   have HZ3:=Kh hz3
   clear hz3 hb3 HROW HBR
   go_upto_if 21 with(fail)
   obtain⟨w3,hw3⟩:∃ w3,w2.alloc (.cells #[.bool s3,.slice p3 n3 c3] 33)=w3:=⟨_,rfl⟩
   have hb3:Below w2.heap.size w2 w3:=hw3▸(Below.refl _ _).alloc (Nat.le_refl _) _
   have XR:=hw3▸Blk.new w2 33 #[.bool s3,.slice p3 n3 c3]
   rw[hw3]
   obtain⟨R,hR⟩:∃ R,w2.heap.size=R:=⟨_,rfl⟩
   rw[hR]at XR ⊢
   have hRg:g<R:=by omega
   have HV3:=Kh (show VarZ w3 R 0 from⟨s3,p3,n3,c3,XR,HZ3.out.keep hb3⟩)
   have HROW3:=Kh (ZRow.keep HROW2.out hb3)
   have HBR3:=Kh (HBR2.out.trans (hb3.mono (Nat.le_of_lt hsz2)))
   clear hw3 hb3 XR hR hsz2 HROW2 HBR2 HZ3
   obtain⟨u1,hu1⟩:∃ u1,(if 0<k then a*f (k - 1)else 0)=u1:=⟨_,rfl⟩
   have HU1:=Kh hu1
   clear hu1
   go_cut []from 20 to 28 (fun wd=>VarZ wd R u1∧ZRow (lin a b f) wd g N k∧Below g w0 wd)
   case first=>
    by_cases hk0:0<k
    ·obtain⟨k1,hk1⟩:∃ k1,k=k1+1:=⟨k - 1,by omega⟩
     have HU:=Kh (show a*f k1=u1 by rw[← HU1.out,if_pos hk0,hk1,Nat.add_sub_cancel])
     obtain⟨we,rfl⟩:∃ we:World,we=w3:=⟨_,rfl⟩
     have hbm:Below w0.heap.size w0 we:=HS0.out▸HBR3.out
     obtain⟨s',p',i',c',a0,a1,hx⟩:=(HR.out k1 (by omega)).keep hbm
     have HP:=Kh (show Zs we s' p' i' c' (f k1)from hx)
     have x0:=(HX0.out.below_ HBR3.out hxl).at_ 0 rfl
     have x1:=(HX0.out.below_ HBR3.out hxl).at_ 1 rfl
     have HX:=Kh (HAX.out.keep hbm)
     have HI:=Kh (show i'≤1000 by rw[← hx.2.1];exact HF.out k1)
     have HM1:=Kh (fun W (hb:Below we.heap.size we W)=>c_Mul s p n c a s' p' i' c' (f k1) W (HX.out.keep hb).raw (HP.out.keep hb).raw (by omega) (by have:=HI.out;omega))
     rw[HU.out]at HM1
     obtain⟨s5,p5,n5,c5,XR,_⟩:=HV3.out
     have HXR:=Kh XR
     have hkk1:(k:Int) - 1=(k1:Nat):=by omega
     have hk1n:k1<m:=by omega
     have hk1i:(k1:Int)<(m:Int):=by omega
     have hkw:IntKind.i64.wrap (k1:Int)=(k1:Nat):=IntWalk.i64_in _ (by omega)
     have hk00:(0:Int)≤(k1:Int):=by omega
     have hg1:=HG1.out
     have hk0i:(0:Int)<(k:Int):=by omega
     clear hx hbm HX HP hk1 HU HU1
     go_upto_region 7 with(fail)
     refine rgB (fun W=>W.cell? ⟨gx,0,none⟩=some (.bool s)∧W.cell? ⟨gx,1,none⟩=some (.slice p n c)∧W.cell? ⟨g1,o1+k1*2,none⟩=some (.bool s')∧W.cell? ⟨g1,o1+k1*2+1,none⟩=some (.slice p' i' c')∧W.cell? ⟨R,0,none⟩=some (.bool s5)∧W.frozen? ⟨R,0,none⟩=false∧W.cell? ⟨R,1,none⟩=some (.slice p5 n5 c5)∧W.frozen? ⟨R,1,none⟩=false) (fun W hb=>⟨cnx hb x0,cnx hb x1,cnx hb a0,cnx hb a1,cnx hb (XR.at_ 0 rfl),frozen_keep hb (by rw[(XR.at_ 0 rfl)];rfl) (XR.free_ 0),cnx hb (XR.at_ 1 rfl),frozen_keep hb (by rw[(XR.at_ 1 rfl)];rfl) (XR.free_ 1)⟩) (fun HSE hHeld0=>?_)
     clear x0 x1 a0 a1 XR
     refine tkE 0 ?_;refine tkE 1 ?_;refine tkE 2 ?_;refine tkE 3 ?_;refine tkE 4 ?_;refine tkE 5 ?_
     refine stE 6 rfl (fun K hK=>?_)
     focus(go_simp;refine(HM1.out _ (Below.refl _ we).drew).mono ?_;rintro e w4 ⟨⟨s4,p4,n4,c4,rfl,hz4⟩,hb4⟩;have HBE4:=Kh ((Below.refl _ we).drew.trans hb4:Below we.heap.size we w4);have HZ4:=Kh hz4;clear hz4 hb4;(first|with_reducible refine hK.out _ _ ?_ (fun hHeld1=>?_) |(go_wp2_with fail;with_reducible refine hK.out _ _ ?_ (fun hHeld1=>?_))))
     focus((try dsimp only);exact HSE.out _ HBE4.out)
     focus(clear hK K;(try simp only[Act.put,lsa,lsz,lss]))
     refine laE 7 rfl (fun K hK=>?_)
     go_simp
     refine hK.out _ _ ?_
     clear hK K
     (try simp only[Act.put,lsa,lsz,lss])
     all_goals go_wp2
     all_goals go_meet
     all_goals have hb9:=HBE4.out
     all_goals obtain⟨hv1,hv2⟩:=one_put (bk HXR hb9) HZ4.out
     all_goals exact⟨⟨_,_,_,_,hv1,hv2⟩,ZRow.var (ZRow.keep HROW3.out hb9) (bk HXR hb9) (Nat.ne_of_lt hRg),below_put2 (HBR3.out.trans (hb9.mono (Nat.le_of_lt HROW3.out.sts.1))) (Nat.le_of_lt hRg)⟩
    ·have HU:=Kh (show 0=u1 by rw[← HU1.out,if_neg hk0])
     obtain rfl:k=0:=by omega
     go_wp2
     go_meet
     exact⟨HU.out▸HV3.out,HROW3.out,HBR3.out⟩
   case rest=>
    obtain⟨hv,hr,hb⟩:=hcut
    obtain⟨we,rfl⟩:∃ we:World,we=wc:=⟨_,rfl⟩
    have HV4:=Kh hv
    have HROW4:=Kh hr
    have HBR4:=Kh hb
    clear hv hr hb HV3 HROW3 HBR3
    go_upto_if 32 with(fail)
    go_cut []from 29 to 40 (fun wd=>VarZ wd R (lin a b f k)∧ZRow (lin a b f) wd g N k∧Below g w0 wd)
    case first=>
     by_cases hkm:k<m
     ·have HU:=Kh (show u1+b*f k=lin a b f k by unfold lin;rw[HU1.out])
      have hbm:Below w0.heap.size w0 we:=HS0.out▸HBR4.out
      obtain⟨s',p',i',c',a0,a1,hx⟩:=(HR.out k hkm).keep hbm
      have HP:=Kh (show Zs we s' p' i' c' (f k)from hx)
      have x0:=(HX1.out.below_ HBR4.out hyl).at_ 0 rfl
      have x1:=(HX1.out.below_ HBR4.out hyl).at_ 1 rfl
      have HX:=Kh (HBX.out.keep hbm)
      have HI:=Kh (show i'≤1000 by rw[← hx.2.1];exact HF.out k)
      have HM1:=Kh (fun W (hb:Below we.heap.size we W)=>c_Mul t q m' d b s' p' i' c' (f k) W (HX.out.keep hb).raw (HP.out.keep hb).raw (by omega) (by have:=HI.out;omega))
      obtain⟨s5,p5,n5,c5,XR,hv5⟩:=HV4.out
      have HXR:=Kh XR
      have HV5:=Kh hv5
      have HSU:=Kh (show n5≤2000 by
       rw[← hv5.2.1,← HU1.out]
       split
       ·rw[Int.natAbs_mul]
        have h1:=nd_mul a.natAbs (f (k - 1)).natAbs
        have h2:=HF.out (k - 1)
        have h3:nd a.natAbs≤10:=by rw[HAX.out.2.1];exact hn
        omega
       ·simp[nd_zero])
      have HSP:=Kh (show nd (b*f k).natAbs≤2000 by
       rw[Int.natAbs_mul]
       have h1:=nd_mul b.natAbs (f k).natAbs
       have h2:=HF.out k
       have h3:nd b.natAbs≤10:=by rw[HBX.out.2.1];exact hn'
       omega)
      have hkmi:(k:Int)<(m:Int):=by omega
      have hg1:=HG1.out
      clear hx hbm HX HP HU1 hv5
      go_upto_region 9 with(fail)
      refine rgB (fun W=>W.cell? ⟨gy,0,none⟩=some (.bool t)∧W.cell? ⟨gy,1,none⟩=some (.slice q m' d)∧W.cell? ⟨g1,o1+k*2,none⟩=some (.bool s')∧W.cell? ⟨g1,o1+k*2+1,none⟩=some (.slice p' i' c')∧W.cell? ⟨R,0,none⟩=some (.bool s5)∧W.frozen? ⟨R,0,none⟩=false∧W.cell? ⟨R,1,none⟩=some (.slice p5 n5 c5)∧W.frozen? ⟨R,1,none⟩=false) (fun W hb=>⟨cnx hb x0,cnx hb x1,cnx hb a0,cnx hb a1,cnx hb (XR.at_ 0 rfl),frozen_keep hb (by rw[(XR.at_ 0 rfl)];rfl) (XR.free_ 0),cnx hb (XR.at_ 1 rfl),frozen_keep hb (by rw[(XR.at_ 1 rfl)];rfl) (XR.free_ 1)⟩) (fun HSE hHeld0=>?_)
      clear x0 x1 a0 a1 XR
      refine tkE 0 ?_;refine tkE 1 ?_;refine tkE 2 ?_;refine tkE 3 ?_;refine tkE 4 ?_;refine tkE 5 ?_
      refine stE 6 rfl (fun K hK=>?_)
      focus(go_simp;refine(HM1.out _ (Below.refl _ we).drew).mono ?_;rintro e w4 ⟨⟨s4,p4,n4,c4,rfl,hz4⟩,hb4⟩;have HBE4:=Kh ((Below.refl _ we).drew.trans hb4:Below we.heap.size we w4);have HZ4:=Kh hz4;clear hz4 hb4;(first|with_reducible refine hK.out _ _ ?_ (fun hHeld1=>?_) |(go_wp2_with fail;with_reducible refine hK.out _ _ ?_ (fun hHeld1=>?_))))
      focus((try dsimp only);exact HSE.out _ HBE4.out)
      focus(clear hK K;(try simp only[Act.put,lsa,lsz,lss]))
      refine stE 7 rfl (fun K hK=>?_)
      focus(go_simp;refine(c_Add s5 p5 n5 c5 u1 s4 p4 n4 c4 (b*f k) _ (HV5.out.keep HBE4.out).raw HZ4.out.raw (by have:=HSU.out;omega) (by rw[← HZ4.out.2.1];have:=HSP.out;omega)).mono ?_;rintro e w6 ⟨⟨s6,p6,n6,c6,rfl,hz6⟩,hb6⟩;have HBE6:=bt HBE4 hb6;have HZ6:=Kh hz6;clear hz6 hb6;(first|with_reducible refine hK.out _ _ ?_ (fun hHeld2=>?_) |(go_wp2_with fail;with_reducible refine hK.out _ _ ?_ (fun hHeld2=>?_))))
      focus((try dsimp only);exact HSE.out _ HBE6.out)
      focus(clear hK K;(try simp only[Act.put,lsa,lsz,lss]))
      refine laE 8 rfl (fun K hK=>?_)
      go_simp
      refine hK.out _ _ ?_
      clear hK K
      (try simp only[Act.put,lsa,lsz,lss])
      all_goals go_wp2
      all_goals go_meet
      all_goals have hb9:=HBE6.out
      all_goals obtain⟨hv1,hv2⟩:=one_put (bk HXR hb9) HZ6.out
      all_goals exact⟨⟨_,_,_,_,hv1,HU.out▸hv2⟩,ZRow.var (ZRow.keep HROW4.out hb9) (bk HXR hb9) (Nat.ne_of_lt hRg),below_put2 (HBR4.out.trans (hb9.mono (Nat.le_of_lt HROW4.out.sts.1))) (Nat.le_of_lt hRg)⟩
     ·have HU:=Kh (show u1=lin a b f k by unfold lin;rw[HU1.out,HZ0.out k (by omega),Int.mul_zero,Int.add_zero])
      go_wp2
      go_meet
      exact⟨HU.out▸HV4.out,HROW4.out,HBR4.out⟩
    case rest=>
     obtain⟨⟨s5,p5,n5,c5,XR,hv5⟩,hr,hb⟩:=hcut
     obtain⟨w7,rfl⟩:∃ w7:World,w7=wc:=⟨_,rfl⟩
     have y0:=XR.at_ 0 rfl
     have y1:=XR.at_ 1 rfl
     have HQA:=Kh (ZRow.set (k':=k+1) hr k hlt (lin a b f) (fun i' h1 h2=>⟨by omega,rfl⟩) hv5)
     have HB7:=Kh hb
     obtain⟨u0,hu0⟩:=Option.isSome_iff_exists.1 (hr.has (k*2) (by omega))
     obtain⟨u2,hu2⟩:=Option.isSome_iff_exists.1 (hr.has (k*2+1) (by omega))
     have f0:=hr.free (k*2) (by omega)
     have f1:=hr.free (k*2+1) (by omega)
     clear XR hv5 hr hb HV4 HROW4 HBR4
     go_wp2
     go_roundw
     case rel=>exact⟨k+1,by omega,by go_num,HQA.out,below_put2 HB7.out (Nat.le_refl _)⟩
     case measure=>simp[intOf];omega
  ·obtain rfl:N=k:=by omega
   have hbr:=HBR.out
   clear hbr
   go_wp2
   go_ret
   exact⟨⟨g,rfl,hgl,HROW.out⟩,HW.out.trans (HBR.out.mono hgl)⟩
theorem wpl_appN {P:Program} {W:World} {ops:Array Oper} {rest:List Oper} {o:Oper} {a:Act} {Q:Exit→Act→World→Prop} (K:Value→Prop) (hgd:o.guard=none) (s x:Operand) (t E:TypeId)
  (ho:o.op=.call { callee:=.builtin .append,args:=#[s,x],argTypes:=#[t,t] }) {z:Value} {sz bytes:Nat} (hU:P.underlying t=some (.slice E))
  (hinfo:(P.info? E).map (fun i=>(i.zero,i.size,i.bytes))=some (some z,sz,bytes)) (hzs:z.cells.size=sz) (hsz:0<sz) (B n m g c:Nat) (v:Value) (xs news:List Value)
  (hs:a.eval s=v) (hown:OwnK K W B E sz v n xs) (hx:a.eval x=.slice (some ⟨g,0,none⟩) m c) (hn:news.length=m*sz) (hcell:∀ (j:Nat) (u:Value),news[j]?=some u→W.cell? ⟨g,j,none⟩=some u) (h1:∀ u∈news,u.oneCell'=true)
  (hb:(n+m)*bytes≤140737488355328) (hm:n+m≤9223372036854775807) (hm0:0<m) (hB:B≤W.heap.size) (hKn:∀ u∈news,K u) (hKz:∀ u∈z.cells.toList,K u)
  (h:∀ v' w',OwnK K w' B E sz v' (n+m) (xs++news)→W.grownBy w' v.ownBlock→(v'.ownBlock=v.ownBlock∨v'.ownBlock=some W.heap.size)→wpList P ops Q rest (a.put o.dst v') w'):
  wpList P ops Q (o :: rest) a W:=by
 obtain⟨i0,hi,hz0,hz1,hz2⟩:=info_parts hinfo
 have hcell2:∀ (j:Nat) (u:Value),news[j]?=some u→W.cell? ((⟨g,0,none⟩:Addr).add j)=some u:=by
  intro j u hu
  have e:(⟨g,0,none⟩:Addr).add j=⟨g,j,none⟩:=by
   unfold Addr.add;split
   ·rename_i h0;rw[h0]
   ·simp
  rw[e]
  exact hcell j u hu
 obtain⟨v',w',hr,g1,g2,_,g3⟩:=run_append_own_at (P:=P) W B t o.type E i0 z sz bytes hU hi hz0 hz1 hz2 hzs hsz v n xs hown.1 ⟨g,0,none⟩ m c news hn hcell2 h1 hm hb hB
 have g4:=append_stk K W B t o.type E i0 z sz bytes hU hi hz0 hz1 hz2 hzs hsz v n xs hown.1 ⟨g,0,none⟩ m c news hn hcell2 h1 hm hb hm0 hown.2 hKn hKz hr
 refine wpList_plain hgd fun K' hK'=>?_
 unfold Oper.wp execOp
 simp only[ho,resolve,invoke,builtin,Sem.run_bind,Sem.run_pure,Result.andThen_ok,List.map_toArray,List.map_cons,List.map_nil,hs,hx,hr]
 exact hK' _ _ (h v' w' ⟨g1,g4⟩ g2 g3)
def rowCells (w:World) (g n:Nat):List Value:=(List.range n).map fun i=>cellOf w ⟨g,i,none⟩
theorem rowCells_length (w:World) (g n:Nat):(rowCells w g n).length=n:=by unfold rowCells;rw[List.length_map,List.length_range]
theorem rowCells_get {w:World} {g n j:Nat} (hj:j<n):(rowCells w g n)[j]?=some (cellOf w ⟨g,j,none⟩):=by
 unfold rowCells
 rw[List.getElem?_map,List.getElem?_range hj];rfl
theorem rowCells_lt {w:World} {g n j:Nat} {u:Value} (h:(rowCells w g n)[j]?=some u):j<n:=by
 rcases Nat.lt_or_ge j n with h1|h1
 ·exact h1
 ·rw[List.getElem?_eq_none (by rw[rowCells_length];exact h1)]at h;cases h
theorem ZRow.cellOf {f:Nat→Int} {w:World} {g N:Nat} (h:ZRow f w g N N) {i:Nat} (hi:i<N*2):w.cell? ⟨g,i,none⟩=some (cellOf w ⟨g,i,none⟩):=by
 obtain⟨u,hu⟩:=Option.isSome_iff_exists.1 (h.has i hi)
 rw[hu,cellOf_eq hu]
theorem ZRow.shape {f:Nat→Int} {w:World} {g N:Nat} (h:ZRow f w g N N) {i:Nat} (hi:i<N*2):(∃ s,Go.Proofs.YthikonjlgljikaaGreatDoor.cellOf w ⟨g,i,none⟩=.bool s)∨∃ p n c,Go.Proofs.YthikonjlgljikaaGreatDoor.cellOf w ⟨g,i,none⟩=.slice p n c:=by
 obtain⟨s,p,n,c,e0,e1,_⟩:=h.val (i / 2) (by omega)
 rcases Nat.mod_two_eq_zero_or_one i with h2|h2
 ·rw[show i / 2*2=i by omega]at e0
  exact .inl ⟨s,cellOf_eq e0⟩
 ·rw[show i / 2*2+1=i by omega]at e1
  exact .inr ⟨p,n,c,cellOf_eq e1⟩
theorem rowCells_all {f:Nat→Int} {w:World} {g N:Nat} (h:ZRow f w g N N) {u:Value} (hu:u∈rowCells w g (N*2)):(∃ s,u=.bool s)∨∃ p n c,u=.slice p n c:=by
 obtain⟨j,hj⟩:=List.getElem?_of_mem hu
 have hl:=rowCells_lt hj
 rw[rowCells_get hl]at hj
 injection hj with hj
 subst hj
 exact h.shape hl
theorem rowCells_one {f:Nat→Int} {w:World} {g N:Nat} (h:ZRow f w g N N):∀ u∈rowCells w g (N*2),u.oneCell'=true:=by
 intro u hu
 rcases rowCells_all h hu with⟨s,rfl⟩ |⟨p,n,c,rfl⟩ <;> rfl
theorem rowCells_ni {f:Nat→Int} {w:World} {g N:Nat} (h:ZRow f w g N N):∀ u∈rowCells w g (N*2),NotInt u:=by
 intro u hu
 rcases rowCells_all h hu with⟨s,rfl⟩ |⟨p,n,c,rfl⟩
 ·exact NotInt.bool _
 ·exact NotInt.slice _ _ _
theorem rowCells_cell {f:Nat→Int} {w:World} {g N:Nat} (h:ZRow f w g N N):∀ (j:Nat) (u:Value),(rowCells w g (N*2))[j]?=some u→w.cell? ⟨g,j,none⟩=some u:=by
 intro j u hj
 have hl:=rowCells_lt hj
 rw[rowCells_get hl]at hj
 rw[h.cellOf hl,hj]
theorem OwnZ.more {f r:Nat→Int} {W w':World} {B n m g:Nat} {v v':Value} {xs:List Value} (h1:OwnK NotInt W B 33 2 v n xs) (h2:∀ j,j<n→ZX (f j) W xs (j*2))
  (hr:ZRow r W g m m) (h3:OwnK NotInt w' B 33 2 v' (n+m) (xs++rowCells W g (m*2))) (hg:W.grownBy w' v.ownBlock) (f':Nat→Int) (e1:∀ j,j<n→f' j=f j) (e2:∀ j,j<m→f' (n+j)=r j):OwnZ f' w' B v' (n+m):=by
 have h32:=I32.grown (K:=NotInt) (fun x=>not_int32 x) h1.2 hg
 refine⟨_,h3,fun j hj=>?_⟩
 by_cases hjn:j<n
 ·rw[e1 j hjn];exact((h2 j hjn).i32 h32).app
 ·obtain⟨k,rfl⟩:∃ k,j=n+k:=⟨j - n,by omega⟩
  have hk:k<m:=by omega
  have hl:xs.length=n*2:=h1.1.1
  rw[e2 k hk]
  obtain⟨s,p,c,d,c0,c1,hz⟩:=hr.val k hk
  refine⟨s,p,c,d,?_,?_,hz.i32 h32⟩
  ·rw[List.getElem?_append_right (by omega),hl,show(n+k)*2 - n*2=k*2 by omega,rowCells_get (by omega),cellOf_eq c0]
  ·rw[List.getElem?_append_right (by omega),hl,show(n+k)*2+1 - n*2=k*2+1 by omega,rowCells_get (by omega),cellOf_eq c1]
end Go.Proofs.YthikonjlgljikaaGreatDoor
