/- The points of the projective line over the integers modulo n, plain: index u n + v. -/
import Derived.Test.YtijgdhijdfgpfaaGreatDoorZ06
import Derived.Test.YtijgdhijdfgpfaaGreatDoorZ19
import Derived.Test.YtijgdhijdfgpfaaGreatDoorZ27
namespace Go.Proofs.YtijgdhijdfgpfaaGreatDoor
theorem bez (a b:Nat):∃ x y:Int,(a:Int)*x+b*y=(Nat.gcd a b:Int):=by
 induction a,b using Nat.gcd.induction with
 | H0 n=>exact⟨0,1,by simp⟩
 | H1 m n hm ih=>
  obtain⟨x,y,h⟩:=ih
  refine⟨y - (n / m:Nat)*x,x,?_⟩
  rw[Nat.gcd_rec m n,← h]
  have e:(n:Int)=((n % m:Nat):Int)+m*((n / m:Nat):Int):=by
   have:=Nat.mod_add_div n m
   exact_mod_cast this.symm
  conv=>lhs;rw[e]
  rw[Int.mul_sub,Int.add_mul,← Int.mul_assoc]
  grind
theorem unit_inv (n s:Nat) (hn:0<n) (h:Nat.gcd s n=1):∃ r,1≤r∧r≤n∧Nat.gcd r n=1∧r*s % n=1 % n:=by
 obtain⟨x,y,e⟩:=bez s n
 rw[h]at e
 have hx0:=Int.emod_nonneg x (show(n:Int)≠0 by omega)
 have hx1:=Int.emod_lt_of_pos x (show(0:Int)<n by omega)
 have key:∀ r:Nat,(r:Int) % n=x % n→r*s % n=1 % n:=by
  intro r hr
  have h1:((r*s:Nat):Int) % n=((1:Nat):Int) % n:=by
   rw[show((r*s:Nat):Int)=(r:Int)*s by push_cast;rfl,Int.mul_emod,hr,← Int.mul_emod,← Int.add_mul_emod_self_left (x*s) n y,Int.mul_comm x,e]
  exact_mod_cast h1
 have cop:∀ r:Nat,r*s % n=1 % n→Nat.gcd r n=1:=by
  intro r hr
  have h1:Nat.gcd r n∣r*s % n:=(Nat.dvd_mod_iff (Nat.gcd_dvd_right r n)).2 (Nat.dvd_trans (Nat.gcd_dvd_left r n) (Nat.dvd_mul_right r s))
  rw[hr]at h1
  exact Nat.dvd_one.1 ((Nat.dvd_mod_iff (Nat.gcd_dvd_right r n)).1 h1)
 by_cases h0:(x % n).toNat=0
 ·have hk:=key n (by rw[Int.emod_self];omega)
  exact⟨n,hn,Nat.le_refl _,cop n hk,hk⟩
 ·have hk:=key (x % n).toNat (by rw[Int.toNat_of_nonneg hx0,Int.emod_emod])
  exact⟨(x % n).toNat,by omega,by omega,cop _ hk,hk⟩
def pmul (n s k:Nat):Nat:=s*(k / n) % n*n+s*(k % n) % n
def pok (n k:Nat):Bool:=Nat.gcd (Nat.gcd (k / n) (k % n)) n==1
def pun (n s:Nat):Bool:=Nat.gcd s n==1
def pseen (n:Nat) (l:List Nat) (k:Nat):Bool:=l.any fun a=>(List.range n).any fun i=>pun n (i+1)&&pmul n (i+1) a==k
def pts (n:Nat):Nat→List Nat
 | 0=>[]
 | k+1=>if pok n k && !pseen n (pts n k) k then pts n k++[k]else pts n k
theorem pts_succ (n k:Nat):pts n (k+1)=if pok n k && !pseen n (pts n k) k then pts n k++[k]else pts n k:=rfl
theorem pts_length (n k:Nat):(pts n k).length≤k:=by
 induction k with
 | zero=>exact Nat.le_refl _
 | succ k ih=>
  rw[pts_succ]
  split
  ·rw[List.length_append];simp;exact ih
  ·omega
def plst (n k:Nat):Bool:=(List.range n).all fun i=>!pun n (i+1)||decide (k≤pmul n (i+1) k)
theorem pmul_div {n:Nat} (hn:0<n) (s k:Nat):pmul n s k / n=s*(k / n) % n:=by
 unfold pmul
 rw[Nat.mul_comm,Nat.mul_add_div hn,Nat.div_eq_of_lt (Nat.mod_lt _ hn),Nat.add_zero]
theorem pmul_mod (n s k:Nat):pmul n s k % n=s*(k % n) % n:=by
 unfold pmul
 rw[Nat.mul_comm,Nat.mul_add_mod,Nat.mod_mod]
theorem pmul_lt {n:Nat} (hn:0<n) (s k:Nat):pmul n s k<n*n:=by
 have h1:=Nat.mod_lt (s*(k / n)) hn
 have h2:=Nat.mod_lt (s*(k % n)) hn
 unfold pmul
 calc s*(k / n) % n*n+s*(k % n) % n<s*(k / n) % n*n+n:=by omega
  _=(s*(k / n) % n+1)*n:=by rw[Nat.add_mul,Nat.one_mul]
  _≤n*n:=Nat.mul_le_mul_right _ h1
theorem pmul_comp {n:Nat} (hn:0<n) (s t k:Nat):pmul n s (pmul n t k)=pmul n (s*t) k:=by
 have h1:=pmul_div hn t k
 have h2:=pmul_mod n t k
 unfold pmul at h1 h2 ⊢
 rw[h1,h2]
 rw[Nat.mul_mod_mod,Nat.mul_mod_mod,← Nat.mul_assoc,← Nat.mul_assoc]
theorem pmul_congr {n s t:Nat} (h:s % n=t % n) (k:Nat):pmul n s k=pmul n t k:=by
 unfold pmul
 rw[Nat.mul_mod s,h,← Nat.mul_mod,Nat.mul_mod s (k % n),h,← Nat.mul_mod]
theorem pmul_one {n k:Nat} (hk:k<n*n):pmul n 1 k=k:=by
 have hn:0<n:=by
  rcases Nat.eq_zero_or_pos n with h|h
  ·subst h;simp at hk
  ·exact h
 unfold pmul
 rw[Nat.one_mul,Nat.one_mul,Nat.mod_mod,Nat.mod_eq_of_lt (Nat.div_lt_of_lt_mul hk),Nat.mul_comm,Nat.div_add_mod]
theorem pun_mul {n s t:Nat} (hs:pun n s=true) (ht:pun n t=true):pun n (s*t)=true:=by
 unfold pun at *
 simp only[beq_iff_eq]at *
 exact Nat.Coprime.mul_left hs ht
theorem pun_small {n s:Nat} (hn:0<n) (hs:pun n s=true):∃ r,1≤r∧r≤n∧pun n r=true∧r % n=s % n:=by
 unfold pun at *
 simp only[beq_iff_eq]at *
 have h1:Nat.gcd (s % n) n=1:=by rw[← Nat.gcd_rec,Nat.gcd_comm];exact hs
 by_cases h0:s % n=0
 ·rw[h0,Nat.gcd_zero_left]at h1
  exact⟨n,hn,Nat.le_refl _,by rw[Nat.gcd_self];exact h1,by rw[Nat.mod_self,h0]⟩
 ·exact⟨s % n,by omega,Nat.le_of_lt (Nat.mod_lt _ hn),h1,Nat.mod_mod _ _⟩
theorem pun_inv {n s:Nat} (hn:0<n) (hs:pun n s=true):∃ r,1≤r∧r≤n∧pun n r=true∧r*s % n=1 % n:=by
 obtain⟨r,h1,h2,h3,h4⟩:=unit_inv n s hn (by simpa [pun] using hs)
 exact⟨r,h1,h2,by simp[pun,h3],h4⟩
theorem pmul_inv {n s k:Nat} (hk:k<n*n) (hs:pun n s=true):∃ r,1≤r∧r≤n∧pun n r=true∧pmul n r (pmul n s k)=k:=by
 have hn:0<n:=by
  rcases Nat.eq_zero_or_pos n with h|h
  ·subst h;simp at hk
  ·exact h
 obtain⟨r,h1,h2,h3,h4⟩:=pun_inv hn hs
 exact⟨r,h1,h2,h3,by rw[pmul_comp hn,pmul_congr h4,pmul_one hk]⟩
theorem pok_mul {n s k:Nat} (hn:0<n) (hs:pun n s=true) (hk:pok n k=true):pok n (pmul n s k)=true:=by
 unfold pok pun at *
 simp only[beq_iff_eq]at *
 rw[pmul_div hn,pmul_mod n]
 generalize k / n=u at *
 generalize k % n=v at *
 refine Nat.dvd_one.1 ?_
 have hd:∀ g,g∣s*u % n→g∣s*v % n→g∣n→g∣1:=by
  intro g h1 h2 h3
  have h1:=(Nat.dvd_mod_iff h3).1 h1
  have h2:=(Nat.dvd_mod_iff h3).1 h2
  have hg:Nat.Coprime g s:=by
   have:Nat.gcd g s∣Nat.gcd s n:=Nat.dvd_gcd (Nat.gcd_dvd_right g s) (Nat.dvd_trans (Nat.gcd_dvd_left g s) h3)
   rw[hs]at this
   exact Nat.dvd_one.1 this
  have h1:=Nat.Coprime.dvd_of_dvd_mul_left hg h1
  have h2:=Nat.Coprime.dvd_of_dvd_mul_left hg h2
  rw[← hk]
  exact Nat.dvd_gcd (Nat.dvd_gcd h1 h2) h3
 exact hd _ (Nat.dvd_trans (Nat.gcd_dvd_left _ _) (Nat.gcd_dvd_left _ _)) (Nat.dvd_trans (Nat.gcd_dvd_left _ _) (Nat.gcd_dvd_right _ _)) (Nat.gcd_dvd_right _ _)
theorem plst_iff {n k:Nat}:plst n k=true↔∀ s,1≤s→s≤n→pun n s=true→k≤pmul n s k:=by
 unfold plst
 simp only[List.all_eq_true,List.mem_range,Bool.or_eq_true,Bool.not_eq_true',decide_eq_true_eq]
 constructor
 ·intro h s h1 h2 h3
  have:=h (s - 1) (by omega)
  rw[show s - 1+1=s by omega,h3]at this
  simpa using this
 ·intro h i hi
  cases hu:pun n (i+1)with
  | false=>exact .inl rfl
  | true=>exact .inr (h (i+1) (by omega) (by omega) hu)
theorem pseen_iff {n:Nat} {l:List Nat} {k:Nat}:pseen n l k=true↔∃ a,a∈l∧∃ s,1≤s∧s≤n∧pun n s=true∧pmul n s a=k:=by
 unfold pseen
 simp only[List.any_eq_true,List.mem_range,Bool.and_eq_true,beq_iff_eq]
 constructor
 ·rintro⟨a,ha,i,hi,hu,e⟩
  exact⟨a,ha,i+1,by omega,by omega,hu,e⟩
 ·rintro⟨a,ha,s,h1,h2,hu,e⟩
  exact⟨a,ha,s - 1,by omega,by rw[show s - 1+1=s by omega];exact hu,by rw[show s - 1+1=s by omega];exact e⟩
theorem pts_lt {n:Nat}:∀ {k a:Nat},a∈pts n k→a<k:=by
 intro k
 induction k with
 | zero=>intro a h;simp[pts]at h
 | succ k ih=>
  intro a h
  rw[pts_succ]at h
  split at h
  ·rcases List.mem_append.1 h with h|h
   ·have:=ih h;omega
   ·simp at h;omega
  ·have:=ih h;omega
theorem pts_grow {n a:Nat} {k m:Nat} (hkm:k≤m) (h:a∈pts n k):a∈pts n m:=by
 induction m with
 | zero=>have:k=0:=by omega
         subst this;exact h
 | succ m ih=>
  by_cases e:k=m+1
  ·subst e;exact h
  ·have:=ih (by omega)
   rw[pts_succ]
   split
   ·exact List.mem_append_left _ this
   ·exact this
theorem pts_ok {n:Nat}:∀ {k a:Nat},a∈pts n k→pok n a=true∧pseen n (pts n a) a=false:=by
 intro k
 induction k with
 | zero=>intro a h;simp[pts]at h
 | succ k ih=>
  intro a h
  rw[pts_succ]at h
  split at h
  ·rename_i hc
   rcases List.mem_append.1 h with h|h
   ·exact ih h
   ·simp at h hc;subst h;exact hc
  ·exact ih h
theorem pts_new {n k:Nat} (h1:pok n k=true) (h2:pseen n (pts n k) k=false):k∈pts n (k+1):=by
 rw[pts_succ]
 rw[if_pos (by rw[h1,h2];rfl)]
 simp
theorem pts_least {n:Nat} (hn:0<n):∀ k,k<n*n→pok n k=true→(pseen n (pts n k) k=false↔plst n k=true):=by
 intro k
 induction k using Nat.strongRecOn with
 | _ k ih=>
  intro hk hok
  constructor
  ·intro hs
   rw[plst_iff]
   intro s h1 h2 hu
   rcases Nat.lt_or_ge (pmul n s k) k with hlt|hge
   ·exfalso
    have hP:∃ m,∃ t,1≤t∧t≤n∧pun n t=true∧pmul n t k=m:=⟨_,s,h1,h2,hu,rfl⟩
    have hmin:∀ m,(∃ t,1≤t∧t≤n∧pun n t=true∧pmul n t k=m)→m<k→False:=by
     intro m
     induction m using Nat.strongRecOn with
     | _ m ihm=>
      rintro⟨t,t1,t2,tu,e⟩ hm
      have hm':m<n*n:=by omega
      by_cases hl:plst n m=true
      ·have hmo:pok n m=true:=by rw[← e];exact pok_mul hn tu hok
       have hms:=(ih m hm hm' hmo).2 hl
       have hmem:=pts_grow (m:=k) hm (pts_new hmo hms)
       obtain⟨r,r1,r2,ru,re⟩:=pmul_inv (k:=k) hk tu
       have:pseen n (pts n k) k=true:=pseen_iff.2 ⟨m,hmem,r,r1,r2,ru,by rw[← e];exact re⟩
       rw[this]at hs;cases hs
      ·rw[plst_iff]at hl
       have:∃ r,1≤r∧r≤n∧pun n r=true∧pmul n r m<m:=by
        refine Classical.byContradiction fun hno=>hl fun r r1 r2 ru=>?_
        exact Nat.le_of_not_lt fun hlt=>hno ⟨r,r1,r2,ru,hlt⟩
       obtain⟨r,r1,r2,ru,hlt'⟩:=this
       obtain⟨q,q1,q2,qu,qe⟩:=pun_small hn (pun_mul ru tu)
       refine ihm (pmul n r m) hlt' ⟨q,q1,q2,qu,?_⟩ (by omega)
       rw[pmul_congr qe,← pmul_comp hn,e]
    exact hmin _ ⟨s,h1,h2,hu,rfl⟩ hlt
   ·exact hge
  ·intro hl
   cases hs:pseen n (pts n k) k with
   | false=>rfl
   | true=>
    exfalso
    obtain⟨a,ha,s,s1,s2,su,e⟩:=pseen_iff.1 hs
    have hak:=pts_lt ha
    obtain⟨r,r1,r2,ru,re⟩:=pmul_inv (k:=a) (by omega) su
    rw[e]at re
    have:=plst_iff.1 hl r r1 r2 ru
    omega
theorem pts_filter {n:Nat} (hn:0<n):∀ k,k≤n*n→pts n k=(List.range k).filter fun a=>pok n a&&plst n a:=by
 intro k
 induction k with
 | zero=>intro _;rfl
 | succ k ih=>
  intro hk
  rw[List.range_succ,List.filter_append,← ih (by omega)]
  rw[pts_succ]
  cases hok:pok n k with
  | false=>simp[hok]
  | true=>
   have h:=pts_least hn k (by omega) hok
   cases hl:plst n k with
   | false=>
    have:pseen n (pts n k) k=true:=by
     cases hs:pseen n (pts n k) k with
     | true=>rfl
     | false=>rw[h.1 hs]at hl;cases hl
    simp[hok,hl,this]
   | true=>
    have:pseen n (pts n k) k=false:=h.2 hl
    simp[hok,hl,this]
theorem pts_unique {n a b s:Nat} (ha:a∈pts n (n*n)) (hb:b∈pts n (n*n)) (hs:pun n s=true) (e:pmul n s a=b):a=b:=by
 have hn:0<n:=by
  rcases Nat.eq_zero_or_pos n with h|h
  ·subst h;simp[pts]at ha
  ·exact h
 rw[pts_filter hn _ (Nat.le_refl _)]at ha hb
 simp only[List.mem_filter,List.mem_range,Bool.and_eq_true]at ha hb
 obtain⟨s',s1,s2,su,se⟩:=pun_small hn hs
 have h1:=plst_iff.1 ha.2.2 s' s1 s2 su
 rw[pmul_congr se,e]at h1
 obtain⟨r,r1,r2,ru,re⟩:=pmul_inv (k:=a) ha.1 hs
 rw[e]at re
 have h2:=plst_iff.1 hb.2.2 r r1 r2 ru
 omega
theorem pmul_free {n s t k:Nat} (hn:0<n) (hk:pok n k=true) (e:pmul n s k=pmul n t k):s % n=t % n:=by
 have e1:s*(k / n) % n=t*(k / n) % n:=by rw[← pmul_div hn,← pmul_div hn,e]
 have e2:s*(k % n) % n=t*(k % n) % n:=by rw[← pmul_mod n,← pmul_mod n,e]
 unfold pok at hk
 simp only[beq_iff_eq]at hk
 generalize k / n=u at *
 generalize k % n=v at *
 obtain⟨x,y,h1⟩:=bez u v
 obtain⟨z,q,h2⟩:=bez (Nat.gcd u v) n
 rw[hk]at h2
 have f1:((n:Int))∣(s:Int)*u - t*u:=by
  apply Int.dvd_of_emod_eq_zero
  rw[Int.sub_emod]
  have:((s:Int)*u) % n=((t:Int)*u) % n:=by exact_mod_cast e1
  rw[this];simp
 have f2:((n:Int))∣(s:Int)*v - t*v:=by
  apply Int.dvd_of_emod_eq_zero
  rw[Int.sub_emod]
  have:((s:Int)*v) % n=((t:Int)*v) % n:=by exact_mod_cast e2
  rw[this];simp
 obtain⟨c1,f1⟩:=f1
 obtain⟨c2,f2⟩:=f2
 have key:(s:Int) - t=n*((c1*x+c2*y)*z+(s - t)*q):=by
  have a1:((s:Int) - t)*u=n*c1:=by rw[Int.sub_mul];exact f1
  have a2:((s:Int) - t)*v=n*c2:=by rw[Int.sub_mul];exact f2
  have a3:((s:Int) - t)*(Nat.gcd u v:Int)=n*(c1*x+c2*y):=by
   rw[← h1,Int.mul_add,← Int.mul_assoc,← Int.mul_assoc,a1,a2,Int.mul_add,Int.mul_assoc,Int.mul_assoc]
  have a4:((s:Int) - t)*1=n*(c1*x+c2*y)*z+n*((s - t)*q):=by
   have h2':((Nat.gcd u v:Nat):Int)*z+n*q=1:=by exact_mod_cast h2
   rw[← h2',Int.mul_add,← Int.mul_assoc,a3]
   congr 1
   rw[Int.mul_left_comm]
  rw[Int.mul_one]at a4
  refine a4.trans ?_
  rw[Int.mul_add (n:Int) ((c1*x+c2*y)*z),Int.mul_assoc]
 have:(s:Int) % n=(t:Int) % n:=by
  rw[show(s:Int)=t+n*((c1*x+c2*y)*z+(s - t)*q)by omega,Int.add_mul_emod_self_left]
 exact_mod_cast this
def tset (f:Nat→Nat×Int) (k:Nat) (x:Nat×Int):Nat→Nat×Int:=fun i=>if i=k then x else f i
def plRow (n l:Nat) (c:Int) (L:List Nat):Nat→(Nat→Nat×Int)→(Nat→Nat×Int)
 | 0,f=>f
 | j+1,f=>tset (plRow n l c L j f) (pmul n l (L.getD j 0)) (j,c)
def plAll (n:Nat) (D:Int) (L:List Nat):Nat→(Nat→Nat×Int)
 | 0=>fun _=>(0,0)
 | l+1=>if pun n (l+1)then plRow n (l+1) (Pl.kroP D (l+1)) L L.length (plAll n D L l)else plAll n D L l
def TabOk (m:Nat) (f:Nat→Nat×Int):Prop:=∀ k,f k=(0,0)∨(f k).1<m∧((f k).2=0∨(f k).2=1∨(f k).2=-1)
theorem TabOk.set {m:Nat} {f:Nat→Nat×Int} (h:TabOk m f) (k:Nat) (x:Nat×Int) (hx:x.1<m) (hc:x.2=0∨x.2=1∨x.2=-1):TabOk m (tset f k x):=by
 intro i
 unfold tset
 split
 ·exact .inr ⟨hx,hc⟩
 ·exact h i
theorem plRow_ok {n l:Nat} {c:Int} {L:List Nat} (hc:c=0∨c=1∨c=-1) {f:Nat→Nat×Int} (h:TabOk L.length f):∀ j,j≤L.length→TabOk L.length (plRow n l c L j f):=by
 intro j
 induction j with
 | zero=>intro _;exact h
 | succ j ih=>intro hj;exact(ih (by omega)).set _ _ (by exact hj) hc
theorem plAll_ok {n:Nat} {D:Int} {L:List Nat} (hk:∀ l,Pl.kroP D l=0∨Pl.kroP D l=1∨Pl.kroP D l=-1):∀ l,TabOk L.length (plAll n D L l):=by
 intro l
 induction l with
 | zero=>intro k;exact .inl rfl
 | succ l ih=>
  unfold plAll
  split
  ·exact plRow_ok (hk _) ih _ (Nat.le_refl _)
  ·exact ih
abbrev M4:=Int×Int×Int×Int
theorem lin_abs (a b:Int) (p:Nat→Int) (K:Nat) (hp:∀ j,(p j).natAbs≤K) (j:Nat):(lin a b p j).natAbs≤(a.natAbs+b.natAbs)*K:=by
 unfold lin
 have h1:(if 0<j then a*p (j - 1)else 0).natAbs≤a.natAbs*K:=by
  split
  ·rw[Int.natAbs_mul];exact Nat.mul_le_mul_left _ (hp _)
  ·simp
 have h2:(b*p j).natAbs≤b.natAbs*K:=by rw[Int.natAbs_mul];exact Nat.mul_le_mul_left _ (hp _)
 have h3:=Int.natAbs_add_le (if 0<j then a*p (j - 1)else 0) (b*p j)
 rw[Nat.add_mul]
 omega
theorem mv_abs (i:Nat) (a b c d:Int) (h1:a.natAbs+b.natAbs≤2) (h2:c.natAbs+d.natAbs≤2) (k:Nat):∀ j,(mv i a b c d k j).natAbs≤2 ^ k:=by
 induction k with
 | zero=>
  intro j
  show(if j=0 then(1:Int)else 0).natAbs≤1
  split <;> simp
 | succ k ih=>
  intro j
  rw[mv,Nat.pow_succ,Nat.mul_comm (2 ^ k)]
  split
  ·exact Nat.le_trans (lin_abs a b _ _ ih j) (Nat.mul_le_mul_right _ h1)
  ·exact Nat.le_trans (lin_abs c d _ _ ih j) (Nat.mul_le_mul_right _ h2)
theorem lin_times (a b x:Int) (p:Nat→Int) (j:Nat):lin a b (fun j=>x*p j) j=x*lin a b p j:=by
 unfold lin
 split <;> grind
def mvd (n w:Nat) (L:List Nat) (f:Nat→Nat×Int) (i j:Nat) (g:M4):Nat→Int:=
 let u:Int:=(L.getD j 0 / n:Nat)
 let v:Int:=(L.getD j 0 % n:Nat)
 let a:=g.1 % n
 let b:=g.2.1 % n
 let c:=g.2.2.1 % n
 let d:=g.2.2.2 % n
 let p:=f (((u*a+v*c) % n).toNat*n+((u*b+v*d) % n).toNat)
 fun k=>if p.2=0 then 0 else if k % L.length=p.1∧k / L.length≤w then p.2*mv i g.1 g.2.1 g.2.2.1 g.2.2.2 w (k / L.length)else 0
theorem mvd_small {n w:Nat} {L:List Nat} {f:Nat→Nat×Int} {i j:Nat} {g:M4} (hf:TabOk L.length f) (h1:g.1.natAbs+g.2.1.natAbs≤2) (h2:g.2.2.1.natAbs+g.2.2.2.natAbs≤2) (k:Nat):(mvd n w L f i j g k).natAbs≤2 ^ w:=by
 have key:∀ p:Nat×Int,(p=(0,0)∨p.1<L.length∧(p.2=0∨p.2=1∨p.2=-1))→(if p.2=0 then(0:Int)else if k % L.length=p.1∧k / L.length≤w then p.2*mv i g.1 g.2.1 g.2.2.1 g.2.2.2 w (k / L.length)else 0).natAbs≤2 ^ w:=by
  intro p hp
  have hp2:p.2.natAbs≤1:=by rcases hp with rfl |⟨_,h|h|h⟩ <;> simp[*]
  have hm:=mv_abs i g.1 g.2.1 g.2.2.1 g.2.2.2 h1 h2 w (k / L.length)
  split
  ·simp
  split
  ·rw[Int.natAbs_mul]
   exact Nat.le_trans (Nat.mul_le_mul hp2 hm) (by rw[Nat.one_mul];exact Nat.le_refl _)
  ·simp
 exact key _ (hf _)
def gTurn:M4:=(0,-1,1,0)
def gThird:M4:=(0,-1,1,-1)
def gTwice:M4:=(-1,1,-1,0)
def relE (n w:Nat) (L:List Nat) (f:Nat→Nat×Int) (r k:Nat):Int:=
 if r<(w+1)*L.length then(if k=r then 1 else 0)+mvd n w L f (r / L.length) (r % L.length) gTurn k
 else(if k=r - (w+1)*L.length then 1 else 0)+mvd n w L f ((r - (w+1)*L.length) / L.length) ((r - (w+1)*L.length) % L.length) gThird k+mvd n w L f ((r - (w+1)*L.length) / L.length) ((r - (w+1)*L.length) % L.length) gTwice k
theorem relE_small {n w:Nat} {L:List Nat} {f:Nat→Nat×Int} (hf:TabOk L.length f) (hw:w≤22) (r k:Nat):(relE n w L f r k).natAbs≤16777216:=by
 have hp:2 ^ w≤4194304:=Nat.le_trans (Nat.pow_le_pow_right (by decide) hw) (by decide)
 have h1:=fun i j=>mvd_small (n:=n) (w:=w) (i:=i) (j:=j) (g:=gTurn) hf (by decide) (by decide) k
 have h2:=fun i j=>mvd_small (n:=n) (w:=w) (i:=i) (j:=j) (g:=gThird) hf (by decide) (by decide) k
 have h3:=fun i j=>mvd_small (n:=n) (w:=w) (i:=i) (j:=j) (g:=gTwice) hf (by decide) (by decide) k
 unfold relE
 split
 ·have:=h1 (r / L.length) (r % L.length)
  split <;> omega
 ·have a2:=h2 ((r - (w+1)*L.length) / L.length) ((r - (w+1)*L.length) % L.length)
  have a3:=h3 ((r - (w+1)*L.length) / L.length) ((r - (w+1)*L.length) % L.length)
  split <;> omega
def relOf (n w:Nat) (D:Int):Nat→Nat→Int:=relE n w (pts n (n*n)) (plAll n D (pts n (n*n)) n)
def plcOf (n:Nat) (D u v:Int):Nat×Int:=plAll n D (pts n (n*n)) n ((u % n).toNat*n+(v % n).toNat)
end Go.Proofs.YtijgdhijdfgpfaaGreatDoor
namespace Go.Proofs.YtijgdhijdfgpfaaGreatDoor
open Go.RowKit
/-! The units -/
def uns (n:Nat):Nat→List Nat
 | 0=>[]
 | m+1=>if pun n (m+1)then uns n m++[m+1]else uns n m
theorem uns_succ (n m:Nat):uns n (m+1)=if pun n (m+1)then uns n m++[m+1]else uns n m:=rfl
theorem uns_mem {n m s:Nat}:s∈uns n m↔1≤s∧s≤m∧pun n s=true:=by
 induction m with
 | zero=>constructor
         ·intro h;simp[uns]at h
         ·rintro⟨h1,h2,_⟩;omega
 | succ m ih=>
  rw[uns_succ]
  split
  ·rename_i hu
   rw[List.mem_append,ih,List.mem_singleton]
   constructor
   ·rintro(⟨h1,h2,h3⟩|rfl)
    ·exact⟨h1,by omega,h3⟩
    ·exact⟨by omega,Nat.le_refl _,hu⟩
   ·rintro⟨h1,h2,h3⟩
    rcases Nat.lt_or_ge s (m+1)with h|h
    ·exact .inl ⟨h1,by omega,h3⟩
    ·exact .inr (by omega)
  ·rename_i hu
   rw[ih]
   constructor
   ·rintro⟨h1,h2,h3⟩;exact⟨h1,by omega,h3⟩
   ·rintro⟨h1,h2,h3⟩
    refine⟨h1,?_,h3⟩
    rcases Nat.lt_or_ge s (m+1)with h|h
    ·omega
    ·have:s=m+1:=by omega
     subst this
     exact absurd h3 hu
theorem uns_length (n m:Nat):(uns n m).length≤m:=by
 induction m with
 | zero=>exact Nat.le_refl _
 | succ m ih=>
  rw[uns_succ]
  split
  ·rw[List.length_append];simp;exact ih
  ·omega
def flg (n:Nat) (l:List Nat) (a t i:Nat):Bool:=pseen n l i||((uns n n).take t).any fun s=>pmul n s a==i
theorem flg_zero (n:Nat) (l:List Nat) (a i:Nat):flg n l a 0 i=pseen n l i:=by simp[flg]
theorem flg_succ {n:Nat} {l:List Nat} {a t s:Nat} (h:(uns n n)[t]?=some s) (i:Nat):flg n l a (t+1) i=if i=pmul n s a then true else flg n l a t i:=by
 unfold flg
 rw[List.take_add_one,h,Option.toList_some,List.any_append]
 simp only[List.any_cons,List.any_nil,Bool.or_false]
 by_cases e:i=pmul n s a
 ·rw[if_pos e,e];simp
 ·rw[if_neg e]
  have:(pmul n s a==i)=false:=by simpa using fun h=>e h.symm
  rw[this,Bool.or_false]
theorem flg_all {n:Nat} {l:List Nat} {a:Nat} (i:Nat):flg n l a (uns n n).length i=pseen n (l++[a]) i:=by
 unfold flg
 rw[List.take_length]
 unfold pseen
 rw[List.any_append]
 congr 1
 simp only[List.any_cons,List.any_nil,Bool.or_false]
 rw[Bool.eq_iff_iff]
 simp only[List.any_eq_true,List.mem_range,Bool.and_eq_true,uns_mem]
 constructor
 ·rintro⟨s,⟨h1,h2,h3⟩,e⟩
  exact⟨s - 1,by omega,by rw[show s - 1+1=s by omega];exact⟨h3,e⟩⟩
 ·rintro⟨j,hj,h3,e⟩
  exact⟨j+1,⟨by omega,by omega,h3⟩,e⟩
/-! A row of cells of one kind,written in place: cell i holds f i -/
structure CRow (f:Nat→Value) (w:World) (g m:Nat):Prop where
 stk:Stk NotU32 w g
 free:∀ i,i<m→w.frozen? ⟨g,i,none⟩=false
 val:∀ i,i<m→w.cell? ⟨g,i,none⟩=some (f i)
theorem CRow.keep {f:Nat→Value} {w w':World} {g m:Nat} (h:CRow f w g m) (hb:Below w.heap.size w w'):CRow f w' g m:=
 ⟨h.stk.next hb,fun i hi=>frozen_keep hb (by rw[h.val i hi];rfl) (h.free i hi),fun i hi=>(hb.cell (p:=⟨g,i,none⟩) h.stk.1).trans (h.val i hi)⟩
theorem CRow.grown {f:Nat→Value} {w w':World} {g m:Nat} {o:Option Nat} (h:CRow f w g m) (hg:w.grownBy w' o) (hne:∀ b,o=some b→g≠b):CRow f w' g m:=by
 have hb:w'.heap[g]?=w.heap[g]?:=hg.block g h.stk.1 (fun e=>hne _ e.symm rfl)
 refine⟨⟨Nat.lt_of_lt_of_le h.stk.1 hg.size,fun i v hv=>h.stk.2 i v ((World.cell?_of_block (a:=⟨g,i,none⟩) hb).symm.trans hv)⟩,fun i hi=>(World.frozen?_of_block (a:=⟨g,i,none⟩) hb).trans (h.free i hi),fun i hi=>(World.cell?_of_block (a:=⟨g,i,none⟩) hb).trans (h.val i hi)⟩
theorem CRow.set {f:Nat→Value} {w:World} {g m:Nat} (h:CRow f w g m) (k:Nat) (u:Value) (hu:NotU32 u) (f':Nat→Value) (hf:∀ i,i<m→f' i=if i=k then u else f i):CRow f' (w.setCell ⟨g,k,none⟩ u) g m:=by
 refine⟨stk_put h.stk _ _ hu,fun i hi=>frozen_set (h.free i hi),fun i hi=>?_⟩
 rw[hf i hi]
 by_cases e:i=k
 ·subst e
  rw[if_pos rfl]
  exact World.cell?_setCell_same' _ _ _ (by rw[h.val i hi];rfl)
 ·rw[if_neg e,World.cell?_setCell_other _ _ _ _ (by simp <;> omega)]
  exact h.val i hi
theorem CRow.congr {f f':Nat→Value} {w:World} {g m:Nat} (h:CRow f w g m) (e:∀ i,i<m→f' i=f i):CRow f' w g m:=⟨h.stk,h.free,fun i hi=>by rw[e i hi];exact h.val i hi⟩
theorem CRow.i32 {f:Nat→Value} {w:World} {g m k:Nat} (h:CRow f w g m) (u:Value):I32 w (w.setCell ⟨g,k,none⟩ u):=I32.putU h.stk k u
theorem boolInfo:(Tryz.prog.info? 4).map (fun i=>(i.zero,i.size,i.bytes))=some (some (.bool false),1,1):=by kernel_rfl
theorem makeB (n:Nat) (h:n≤1000000) (w:World):
  (Instr.makeSlice 187 (.int .i64 (n:Int)) (.int .i64 (n:Int))).run Tryz.prog w=.ok (.slice (some ⟨w.heap.size,0,none⟩) n n) (w.alloc (.cells (madeCells #[.bool false] n) 4)):=by
 obtain⟨i,hi,hz0,hz1,hz2⟩:=info_parts boolInfo
 have hr:=run_make (P:=Tryz.prog) w 187 4 i _ Tryz.underlying187 hi hz0 .i64 .i64 n n (by omega) (Int.le_refl _) (by rw[hz2];omega) (by omega)
 rw[Int.toNat_natCast,hz1,Nat.mul_one]at hr
 exact hr
theorem made1 {z:Value} {n i:Nat} {v:Value} (h:(madeCells #[z] n)[i]?=some v):v=z:=by
 unfold madeCells at h
 simp only[Array.getElem?_map,Array.getElem?_range]at h
 split at h
 ·simp only[Option.map_some]at h
  injection h with h
  rw[← h]
  have h3:i % 1=0:=Nat.mod_one i
  show(#[z]:Array Value)[i % 1]! = _
  rw[h3];rfl
 ·cases h
theorem CRow.made {z:Value} (hz:NotU32 z) (w:World) (n:Nat) (t:TypeId):CRow (fun _=>z) (w.alloc (.cells (madeCells #[z] n) t)) w.heap.size n:=by
 have hb:=Blk.new w t (madeCells #[z] n)
 refine⟨Stk.of hb ?_,fun i _=>hb.free_ i,fun i hi=>?_⟩
 ·intro v hv
  obtain⟨i,hi⟩:=Array.getElem?_of_mem (Array.mem_toList_iff.1 hv)
  rw[made1 hi]
  exact hz
 ·rw[hb.cell_ i,Array.getElem?_eq_getElem (by rw[size_madeCells];exact hi)]
  congr 1
  exact made1 (Array.getElem?_eq_getElem (by rw[size_madeCells];exact hi))
/-! Points -/
def ptc (n a:Nat):List Value:=[.int .i64 ((a / n:Nat):Int),.int .i64 ((a % n:Nat):Int),.int .i64 1]
def OwnPt (n:Nat) (l:List Nat) (w:World) (B:Nat) (v:Value):Prop:=OwnK NotU32 w B 170 3 v l.length (l.flatMap (ptc n))
theorem OwnPt.nil (n:Nat) (w:World) (B:Nat):OwnPt n [] w B (.slice none 0 0):=OwnK.nil _ _ _ _ _
theorem OwnPt.keep {n:Nat} {l:List Nat} {w w':World} {B:Nat} {v:Value} (h:OwnPt n l w B v) (hb:Below w.heap.size w w'):OwnPt n l w' B v:=OwnK.keep h hb
theorem OwnPt.push {n:Nat} {l:List Nat} {w':World} {B:Nat} {v':Value} {a:Nat} (h:OwnK NotU32 w' B 170 3 v' (l.length+1) (l.flatMap (ptc n)++ptc n a)):OwnPt n (l++[a]) w' B v':=by
 unfold OwnPt
 rw[List.flatMap_append,List.length_append]
 simpa using h
theorem OwnK.other {K:Value→Prop} {w:World} {B E sz n:Nat} {v:Value} {xs:List Value} (h:OwnK K w B E sz v n xs) {a:Addr} (ha:a.block<B) {u:Value} (hu:K u):OwnK K (w.setCell a u) B E sz v n xs:=
 ⟨ownsRow_setCell_below h.1 ha u,fun g hg=>stk_put (h.2 g hg) _ _ hu⟩
theorem ptInfo:(Tryz.prog.info? 170).map (fun i=>(i.zero,i.size,i.bytes))=some (some (.agg #[.int .i64 0,.int .i64 0,.int .i64 0]),3,24):=by kernel_rfl
def PtL (n:Nat) (l:List Nat) (w:World) (B:Nat) (v:Value):Prop:=(l=[]∧∃ a c,v=.slice a 0 c)∨∃ g cap,v=.slice (some ⟨g,0,none⟩) l.length cap∧g<B∧∀ (j a:Nat),l[j]?=some a→w.cell? ⟨g,j*3,none⟩=some (.int .i64 ((a / n:Nat):Int))∧w.cell? ⟨g,j*3+1,none⟩=some (.int .i64 ((a % n:Nat):Int))∧w.cell? ⟨g,j*3+2,none⟩=some (.int .i64 1)
theorem flat_get {n:Nat}:∀ {l:List Nat} {j a i:Nat},l[j]?=some a→i<3→(l.flatMap (ptc n))[j*3+i]?=(ptc n a)[i]?
 | [],j,a,i,h,_=>by simp at h
 | x :: l,0,a,i,h,hi=>by
  simp at h
  subst h
  rw[List.flatMap_cons,List.getElem?_append_left (by simp[ptc];omega),Nat.zero_mul,Nat.zero_add]
 | x :: l,j+1,a,i,h,hi=>by
  rw[List.getElem?_cons_succ]at h
  rw[List.flatMap_cons,List.getElem?_append_right (by simp[ptc];omega)]
  have e:(j+1)*3+i - (ptc n x).length=j*3+i:=by simp[ptc];omega
  rw[e]
  exact flat_get h hi
theorem OwnPt.ptl {n:Nat} {l:List Nat} {w:World} {B:Nat} {v:Value} (h:OwnPt n l w B v):PtL n l w w.heap.size v:=by
 rcases h.1.2 with⟨e1,e2⟩ |⟨g,cap,cs,e1,hB,hg,hn,hcm,hcs,_⟩
 ·exact .inl ⟨List.eq_nil_of_length_eq_zero e2,_,_,e1⟩
 ·have hs:=h.2 g (by rw[e1];rfl)
  have h1:=h.1
  subst e1
  refine .inr ⟨g,cap,rfl,hs.1,fun j a ha=>⟨?_,?_,?_⟩⟩
  ·exact own_read h1 ((flat_get (i:=0) ha (by omega)).trans rfl)
  ·exact own_read h1 ((flat_get (i:=1) ha (by omega)).trans rfl)
  ·exact own_read h1 ((flat_get (i:=2) ha (by omega)).trans rfl)
theorem PtL.next {n:Nat} {l:List Nat} {w w':World} {B:Nat} {v:Value} (h:PtL n l w B v) (hb:Below B w w'):PtL n l w' B v:=by
 rcases h with h |⟨g,cap,e,hg,hx⟩
 ·exact .inl h
 ·exact .inr ⟨g,cap,e,hg,fun j a ha=>by
   obtain⟨h0,h1,h2⟩:=hx j a ha
   exact⟨(hb.cell (p:=⟨g,_,none⟩) hg).trans h0,(hb.cell (p:=⟨g,_,none⟩) hg).trans h1,(hb.cell (p:=⟨g,_,none⟩) hg).trans h2⟩⟩
theorem PtL.up {n:Nat} {l:List Nat} {w:World} {B B':Nat} {v:Value} (h:PtL n l w B v) (hB:B≤B'):PtL n l w B' v:=by
 rcases h with h |⟨g,cap,e,hg,hx⟩
 ·exact .inl h
 ·exact .inr ⟨g,cap,e,Nat.lt_of_lt_of_le hg hB,hx⟩
end Go.Proofs.YtijgdhijdfgpfaaGreatDoor
