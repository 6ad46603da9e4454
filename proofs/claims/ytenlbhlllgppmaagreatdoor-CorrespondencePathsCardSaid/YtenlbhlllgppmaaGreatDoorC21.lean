/- The points of the projective line over the integers modulo n, plain: index u n + v. -/
import Derived.Test.YtenlbhlllgppmaaGreatDoorC20
set_option maxRecDepth 100000
set_option maxHeartbeats 8000000
namespace Go.Proofs.YtenlbhlllgppmaaGreatDoor
theorem lE (a b:Nat):∃x y:Int,(a:Int)*x+b*y=(Nat.gcd a b:Int):=by
 induction a,b using Nat.gcd.induction with
 | H0 n=>exact⟨0,1,by simp⟩
 | H1 m n hm ih=>
  obtain⟨x,y,h⟩:=ih;refine⟨y - (n / m:Nat)*x,x,?_⟩;rw[Nat.gcd_rec m n,<-h]
  have e:(n:Int)=((n % m:Nat):Int)+m*((n / m:Nat):Int):=by
   have:=Nat.mod_add_div n m
   exact_mod_cast this.symm
  conv=>lhs;rw[e]
  rw[Int.mul_sub,Int.add_mul,<-Int.mul_assoc];grind
theorem Kz (n s:Nat) (hn:0<n) (h:Nat.gcd s n=1):∃r,1<=r/\r<=n/\Nat.gcd r n=1/\r*s % n=1 % n:=by
 obtain⟨x,y,e⟩:=lE s n;rw[h]at e;have M:=Int.emod_nonneg x (show(n:Int)≠0 by omega);have O:=Int.emod_lt_of_pos x (show(0:Int)<n by omega)
 have I:∀r:Nat,(r:Int) % n=x % n->r*s % n=1 % n:=by
  intro r hr
  have J:((r*s:Nat):Int) % n=((1:Nat):Int) % n:=by
   rw[show((r*s:Nat):Int)=(r:Int)*s by push_cast;rfl,Int.mul_emod,hr,<-Int.mul_emod,<-Int.add_mul_emod_self_left (x*s) n y,Int.mul_comm x,e]
  exact_mod_cast J
 have cop:∀r:Nat,r*s % n=1 % n->Nat.gcd r n=1:=by
  intro r hr;have J:Nat.gcd r n∣r*s % n:=(Nat.dvd_mod_iff (Nat.gcd_dvd_right r n)).2 (Nat.dvd_trans (Nat.gcd_dvd_left r n) (Nat.dvd_mul_right r s));rw[hr]at J;exact Nat.dvd_one.1 ((Nat.dvd_mod_iff (Nat.gcd_dvd_right r n)).1 J)
 by_cases h0:(x % n).toNat=0
 ·have E:=I n (by rw[Int.emod_self];omega)
  exact⟨n,hn,Nat.le_refl _,cop n E,E⟩
 ·have E:=I (x % n).toNat (by rw[Int.toNat_of_nonneg M,Int.emod_emod])
  exact⟨(x % n).toNat,by omega,by omega,cop _ E,E⟩
def Az (n s k:Nat):Nat:=s*(k / n) % n*n+s*(k % n) % n
def E5 (n k:Nat):Bool:=Nat.gcd (Nat.gcd (k / n) (k % n)) n==1
def pun (n s:Nat):Bool:=Nat.gcd s n==1
def Ct (n:Nat) (l:List Nat) (k:Nat):Bool:=l.any λa=>(List.range n).any λi=>pun n (i+1)&&Az n (i+1) a==k
def pts (n:Nat):Nat->List Nat
 | 0=>[]
 | k+1=>if E5 n k && !Ct n (pts n k) k then pts n k++[k]else pts n k
theorem Cv (n k:Nat):pts n (k+1)=if E5 n k && !Ct n (pts n k) k then pts n k++[k]else pts n k:=rfl
theorem B9 (n k:Nat):(pts n k).length<=k:=by
 induction k with
 | zero=>exact Nat.le_refl _
 | succ k ih=>
  rw[Cv];split
  ·rw[List.length_append];simp;exact ih
  ·omega
def Fj (n k:Nat):Bool:=(List.range n).all λi=>!pun n (i+1)||decide (k<=Az n (i+1) k)
theorem Dd {n:Nat} (hn:0<n) (s k:Nat):Az n s k / n=s*(k / n) % n:=by
 unfold Az;rw[Nat.mul_comm,Nat.mul_add_div hn,Nat.div_eq_of_lt (Nat.mod_lt _ hn),Nat.add_zero]
theorem De (n s k:Nat):Az n s k % n=s*(k % n) % n:=by
 unfold Az;rw[Nat.mul_comm,Nat.mul_add_mod,Nat.mod_mod]
theorem S7 {n:Nat} (hn:0<n) (s k:Nat):Az n s k<n*n:=by
 have E:=Nat.mod_lt (s*(k / n)) hn;have I:=Nat.mod_lt (s*(k % n)) hn;unfold Az
 calc s*(k / n) % n*n+s*(k % n) % n<s*(k / n) % n*n+n:=by omega
  _=(s*(k / n) % n+1)*n:=by rw[Nat.add_mul,Nat.one_mul]
  _<=n*n:=Nat.mul_le_mul_right _ E
theorem F1 {n:Nat} (hn:0<n) (s t k:Nat):Az n s (Az n t k)=Az n (s*t) k:=by
 have E:=Dd hn t k;have I:=De n t k;unfold Az at E I ⊢;rw[E,I];rw[Nat.mul_mod_mod,Nat.mul_mod_mod,<-Nat.mul_assoc,<-Nat.mul_assoc]
theorem Eu {n s t:Nat} (h:s % n=t % n) (k:Nat):Az n s k=Az n t k:=by
 unfold Az;rw[Nat.mul_mod s,h,<-Nat.mul_mod,Nat.mul_mod s (k % n),h,<-Nat.mul_mod]
theorem Kp {n k:Nat} (E:k<n*n):Az n 1 k=k:=by
 have hn:0<n:=by
  rcases Nat.eq_zero_or_pos n with h|h
  ·subst h;simp at E
  ·exact h
 unfold Az;rw[Nat.one_mul,Nat.one_mul,Nat.mod_mod,Nat.mod_eq_of_lt (Nat.div_lt_of_lt_mul E),Nat.mul_comm,Nat.div_add_mod]
theorem Jh {n s t:Nat} (E:pun n s=true) (I:pun n t=true):pun n (s*t)=true:=by
 unfold pun at *;simp only[beq_iff_eq]at *;exact Nat.Coprime.mul_left E I
theorem Ej {n s:Nat} (hn:0<n) (I:pun n s=true):∃r,1<=r/\r<=n/\pun n r=true/\r % n=s % n:=by
 unfold pun at *;simp only[beq_iff_eq]at *;have E:Nat.gcd (s % n) n=1:=by rw[<-Nat.gcd_rec,Nat.gcd_comm];exact I
 by_cases h0:s % n=0
 ·rw[h0,Nat.gcd_zero_left]at E
  exact⟨n,hn,Nat.le_refl _,by rw[Nat.gcd_self];exact E,by rw[Nat.mod_self,h0]⟩
 ·exact⟨s % n,by omega,Nat.le_of_lt (Nat.mod_lt _ hn),E,Nat.mod_mod _ _⟩
theorem dJ {n s:Nat} (hn:0<n) (O:pun n s=true):∃r,1<=r/\r<=n/\pun n r=true/\r*s % n=1 % n:=by
 obtain⟨r,E,I,J,M⟩:=Kz n s hn (by simpa [pun] using O);exact⟨r,E,I,by simp[pun,J],M⟩
theorem Hf {n s k:Nat} (E:k<n*n) (U:pun n s=true):∃r,1<=r/\r<=n/\pun n r=true/\Az n r (Az n s k)=k:=by
 have hn:0<n:=by
  rcases Nat.eq_zero_or_pos n with h|h
  ·subst h;simp at E
  ·exact h
 obtain⟨r,I,J,M,O⟩:=dJ hn U;exact⟨r,I,J,M,by rw[F1 hn,Eu O,Kp E]⟩
theorem dI {n s k:Nat} (hn:0<n) (U:pun n s=true) (O:E5 n k=true):E5 n (Az n s k)=true:=by
 unfold E5 pun at *;simp only[beq_iff_eq]at *;rw[Dd hn,De n];generalize k / n=u at *;generalize k % n=v at *;refine Nat.dvd_one.1 ?_
 have M:∀g,g∣s*u % n->g∣s*v % n->g∣n->g∣1:=by
  intro g E I J;have E:=(Nat.dvd_mod_iff J).1 E;have I:=(Nat.dvd_mod_iff J).1 I
  have hg:Nat.Coprime g s:=by
   have:Nat.gcd g s∣Nat.gcd s n:=Nat.dvd_gcd (Nat.gcd_dvd_right g s) (Nat.dvd_trans (Nat.gcd_dvd_left g s) J);rw[U]at this;exact Nat.dvd_one.1 this
  have E:=Nat.Coprime.dvd_of_dvd_mul_left hg E;have I:=Nat.Coprime.dvd_of_dvd_mul_left hg I;rw[<-O];exact Nat.dvd_gcd (Nat.dvd_gcd E I) J
 exact M _ (Nat.dvd_trans (Nat.gcd_dvd_left _ _) (Nat.gcd_dvd_left _ _)) (Nat.dvd_trans (Nat.gcd_dvd_left _ _) (Nat.gcd_dvd_right _ _)) (Nat.gcd_dvd_right _ _)
theorem Cs {n k:Nat}:Fj n k=true↔∀s,1<=s->s<=n->pun n s=true->k<=Az n s k:=by
 unfold Fj;simp only[List.all_eq_true,List.mem_range,Bool.or_eq_true,Bool.not_eq_true',decide_eq_true_eq];constructor
 ·intro h s I J E
  have:=h (s - 1) (by omega);rw[show s - 1+1=s by omega,E]at this
  simpa using this
 ·intro h i M
  cases hu:pun n (i+1)with
  | false=>exact .inl rfl
  | true=>exact .inr (h (i+1) (by omega) (by omega) hu)
theorem Ii {n:Nat} {l:List Nat} {k:Nat}:Ct n l k=true↔∃a,a∈l/\∃s,1<=s/\s<=n/\pun n s=true/\Az n s a=k:=by
 unfold Ct;simp only[List.any_eq_true,List.mem_range,Bool.and_eq_true,beq_iff_eq];constructor
 ·rintro⟨a,E,i,O,I,e⟩
  exact⟨a,E,i+1,by omega,by omega,I,e⟩
 ·rintro⟨a,E,s,J,M,I,e⟩
  exact⟨a,E,s - 1,by omega,by rw[show s - 1+1=s by omega];exact I,by rw[show s - 1+1=s by omega];exact e⟩
theorem Gm {n:Nat}:∀{k a:Nat},a∈pts n k->a<k:=by
 intro k;induction k with
 | zero=>intro a h;simp[pts]at h
 | succ k ih=>
  intro a h;rw[Cv]at h;split at h
  ·rcases List.mem_append.1 h with h|h
   ·have:=ih h;omega
   ·simp at h;omega
  ·have:=ih h;omega
theorem Kq {n a:Nat} {k m:Nat} (E:k<=m) (h:a∈pts n k):a∈pts n m:=by
 induction m with
 | zero=>have:k=0:=by omega
         subst this;exact h
 | succ m ih=>
  by_cases e:k=m+1
  ·subst e;exact h
  ·have:=ih (by omega)
   rw[Cv];split
   ·exact List.mem_append_left _ this
   ·exact this
theorem Ij {n:Nat}:∀{k a:Nat},a∈pts n k->E5 n a=true/\Ct n (pts n a) a=false:=by
 intro k;induction k with
 | zero=>intro a h;simp[pts]at h
 | succ k ih=>
  intro a h;rw[Cv]at h;split at h
  ·rename_i hc
   rcases List.mem_append.1 h with h|h
   ·exact ih h
   ·simp at h hc;subst h;exact hc
  ·exact ih h
theorem Tb {n k:Nat} (E:E5 n k=true) (I:Ct n (pts n k) k=false):k∈pts n (k+1):=by
 rw[Cv];rw[if_pos (by rw[E,I];rfl)];simp
theorem Ve {n:Nat} (hn:0<n):∀k,k<n*n->E5 n k=true->(Ct n (pts n k) k=false↔Fj n k=true):=by
 intro k;induction k using Nat.strongRecOn with
 | _ k ih=>
  intro hk bA;constructor
  ·intro h
   rw[Cs];intro s h1 h2 hu;rcases Nat.lt_or_ge (Az n s k) k with hlt|aD
   ·exfalso
    have hP:∃m,∃t,1<=t/\t<=n/\pun n t=true/\Az n t k=m:=⟨_,s,h1,h2,hu,rfl⟩
    have V:∀m,(∃t,1<=t/\t<=n/\pun n t=true/\Az n t k=m)->m<k->False:=by
     intro m;induction m using Nat.strongRecOn with
     | _ m ihm=>
      rintro⟨t,t1,t2,tu,e⟩ hm;have aK:m<n*n:=by omega
      by_cases M:Fj n m=true
      ·have Z:E5 n m=true:=by rw[<-e];exact dI hn tu bA
       have aN:=(ih m hm aK Z).2 M;have U:=Kq (m:=k) hm (Tb Z aN);obtain⟨r,I,J,E,re⟩:=Hf (k:=k) hk tu;have:Ct n (pts n k) k=true:=Ii.2 ⟨m,U,r,I,J,E,by rw[<-e];exact re⟩;rw[this]at h;cases h
      ·rw[Cs]at M
       have:∃r,1<=r/\r<=n/\pun n r=true/\Az n r m<m:=by
        refine Classical.byContradiction λaX=>M λr I J E=>?_
        exact Nat.le_of_not_lt λhlt=>aX ⟨r,I,J,E,hlt⟩
       obtain⟨r,I,J,E,O⟩:=this;obtain⟨q,q1,q2,qu,qe⟩:=Ej hn (Jh E tu);refine ihm (Az n r m) O ⟨q,q1,q2,qu,?_⟩ (by omega);rw[Eu qe,<-F1 hn,e]
    exact V _ ⟨s,h1,h2,hu,rfl⟩ hlt
   ·exact aD
  ·intro M
   cases h:Ct n (pts n k) k with
   | false=>rfl
   | true=>
    exfalso;obtain⟨a,ha,s,s1,s2,su,e⟩:=Ii.1 h;have cD:=Gm ha;obtain⟨r,I,J,E,re⟩:=Hf (k:=a) (by omega) su;rw[e]at re;have:=Cs.1 M r I J E;omega
theorem B8 {n:Nat} (hn:0<n):∀k,k<=n*n->pts n k=(List.range k).filter λa=>E5 n a&&Fj n a:=by
 intro k;induction k with
 | zero=>intro _;rfl
 | succ k ih=>
  intro E;rw[List.range_succ,List.filter_append,<-ih (by omega)];rw[Cv];cases hok:E5 n k with
  | false=>simp[hok]
  | true=>
   have h:=Ve hn k (by omega) hok;cases hl:Fj n k with
   | false=>
    have:Ct n (pts n k) k=true:=by
     cases hs:Ct n (pts n k) k with
     | true=>rfl
     | false=>rw[h.1 hs]at hl;cases hl
    simp[hok,hl,this]
   | true=>
    have:Ct n (pts n k) k=false:=h.2 hl;simp[hok,hl,this]
theorem Rm {n a b s:Nat} (E:a∈pts n (n*n)) (I:b∈pts n (n*n)) (J:pun n s=true) (e:Az n s a=b):a=b:=by
 have hn:0<n:=by
  rcases Nat.eq_zero_or_pos n with h|h
  ·subst h;simp[pts]at E
  ·exact h
 rw[B8 hn _ (Nat.le_refl _)]at E I;simp only[List.mem_filter,List.mem_range,Bool.and_eq_true]at E I;obtain⟨s',s1,s2,su,se⟩:=Ej hn J;have M:=Cs.1 E.2.2 s' s1 s2 su;rw[Eu se,e]at M;obtain⟨r,O,U,Z,V⟩:=Hf (k:=a) E.1 J;rw[e]at V;have h2:=Cs.1 I.2.2 r O U Z;omega
theorem Vd {n s t k:Nat} (hn:0<n) (M:E5 n k=true) (e:Az n s k=Az n t k):s % n=t % n:=by
 have e1:s*(k / n) % n=t*(k / n) % n:=by rw[<-Dd hn,<-Dd hn,e]
 have e2:s*(k % n) % n=t*(k % n) % n:=by rw[<-De n,<-De n,e]
 unfold E5 at M;simp only[beq_iff_eq]at M;generalize k / n=u at *;generalize k % n=v at *;obtain⟨x,y,h1⟩:=lE u v;obtain⟨z,q,U⟩:=lE (Nat.gcd u v) n;rw[M]at U
 have E:((n:Int))∣(s:Int)*u - t*u:=by
  apply Int.dvd_of_emod_eq_zero;rw[Int.sub_emod];have:((s:Int)*u) % n=((t:Int)*u) % n:=by exact_mod_cast e1
  rw[this];simp
 have I:((n:Int))∣(s:Int)*v - t*v:=by
  apply Int.dvd_of_emod_eq_zero;rw[Int.sub_emod];have:((s:Int)*v) % n=((t:Int)*v) % n:=by exact_mod_cast e2
  rw[this];simp
 obtain⟨c1,E⟩:=E;obtain⟨c2,I⟩:=I
 have aX:(s:Int) - t=n*((c1*x+c2*y)*z+(s - t)*q):=by
  have V:((s:Int) - t)*u=n*c1:=by rw[Int.sub_mul];exact E
  have Z:((s:Int) - t)*v=n*c2:=by rw[Int.sub_mul];exact I
  have h:((s:Int) - t)*(Nat.gcd u v:Int)=n*(c1*x+c2*y):=by
   rw[<-h1,Int.mul_add,<-Int.mul_assoc,<-Int.mul_assoc,V,Z,Int.mul_add,Int.mul_assoc,Int.mul_assoc]
  have O:((s:Int) - t)*1=n*(c1*x+c2*y)*z+n*((s - t)*q):=by
   have J:((Nat.gcd u v:Nat):Int)*z+n*q=1:=by exact_mod_cast U
   rw[<-J,Int.mul_add,<-Int.mul_assoc,h];congr 1;rw[Int.mul_left_comm]
  rw[Int.mul_one]at O;refine O.trans ?_;rw[Int.mul_add (n:Int) ((c1*x+c2*y)*z),Int.mul_assoc]
 have:(s:Int) % n=(t:Int) % n:=by
  rw[show(s:Int)=t+n*((c1*x+c2*y)*z+(s - t)*q)by omega,Int.add_mul_emod_self_left]
 exact_mod_cast this
def P8 (f:Nat->Nat×Int) (k:Nat) (x:Nat×Int):Nat->Nat×Int:=λi=>if i=k then x else f i
def E4 (n l:Nat) (c:Int) (L:List Nat):Nat->(Nat->Nat×Int)->(Nat->Nat×Int)
 | 0,f=>f
 | j+1,f=>P8 (E4 n l c L j f) (Az n l (L.getD j 0)) (j,c)
def Bd (n:Nat) (D:Int) (L:List Nat):Nat->(Nat->Nat×Int)
 | 0=>λ_=>(0,0)
 | l+1=>if pun n (l+1)then E4 n (l+1) (Pl.kroP D (l+1)) L L.length (Bd n D L l)else Bd n D L l
def TabOk (m:Nat) (f:Nat->Nat×Int):Prop:=∀k,f k=(0,0)∨(f k).1<m/\((f k).2=0∨(f k).2=1∨(f k).2=-1)
theorem TabOk.set {m:Nat} {f:Nat->Nat×Int} (h:TabOk m f) (k:Nat) (x:Nat×Int) (I:x.1<m) (E:x.2=0∨x.2=1∨x.2=-1):TabOk m (P8 f k x):=by
 intro i;unfold P8;split
 ·exact .inr ⟨I,E⟩
 ·exact h i
theorem Y7 {n l:Nat} {c:Int} {L:List Nat} (E:c=0∨c=1∨c=-1) {f:Nat->Nat×Int} (h:TabOk L.length f):∀j,j<=L.length->TabOk L.length (E4 n l c L j f):=by
 intro j;induction j with
 | zero=>intro _;exact h
 | succ j ih=>intro I;exact(ih (by omega)).set _ _ (by exact I) E
theorem Fi {n:Nat} {D:Int} {L:List Nat} (E:∀l,Pl.kroP D l=0∨Pl.kroP D l=1∨Pl.kroP D l=-1):∀l,TabOk L.length (Bd n D L l):=by
 intro l;induction l with
 | zero=>intro k;exact .inl rfl
 | succ l ih=>
  unfold Bd;split
  ·exact Y7 (E _) ih _ (nL _)
  ·exact ih
abbrev M4:=Int×Int×Int×Int
theorem Sn (a b:Int) (p:Nat->Int) (K:Nat) (E:∀j,(p j).natAbs<=K) (j:Nat):(lin a b p j).natAbs<=(a.natAbs+b.natAbs)*K:=by
 unfold lin
 have I:(if 0<j then a*p (j - 1)else 0).natAbs<=a.natAbs*K:=by
  split
  ·rw[Int.natAbs_mul];exact Nat.mul_le_mul_left _ (E _)
  ·simp
 have J:(b*p j).natAbs<=b.natAbs*K:=by rw[Int.natAbs_mul];exact Nat.mul_le_mul_left _ (E _)
 have M:=Int.natAbs_add_le (if 0<j then a*p (j - 1)else 0) (b*p j);rw[Nat.add_mul];omega
theorem iB (i:Nat) (a b c d:Int) (E:a.natAbs+b.natAbs<=2) (I:c.natAbs+d.natAbs<=2) (k:Nat):∀j,(mv i a b c d k j).natAbs<=2 ^ k:=by
 induction k with
 | zero=>
  intro j;show(if j=0 then(1:Int)else 0).natAbs<=1;split <;> simp
 | succ k ih=>
  intro j;rw[mv,Nat.pow_succ,Nat.mul_comm (2 ^ k)];split
  ·exact nM (Sn a b _ _ ih j) (Nat.mul_le_mul_right _ E)
  ·exact nM (Sn c d _ _ ih j) (Nat.mul_le_mul_right _ I)
theorem L6 (a b x:Int) (p:Nat->Int) (j:Nat):lin a b (λj=>x*p j) j=x*lin a b p j:=by
 unfold lin;split <;> grind
def L8 (n w:Nat) (L:List Nat) (f:Nat->Nat×Int) (i j:Nat) (g:M4):Nat->Int:=
 let u:Int:=(L.getD j 0 / n:Nat)
 let v:Int:=(L.getD j 0 % n:Nat)
 let a:=g.1 % n
 let b:=g.2.1 % n
 let c:=g.2.2.1 % n
 let d:=g.2.2.2 % n
 let p:=f (((u*a+v*c) % n).toNat*n+((u*b+v*d) % n).toNat)
 λk=>if p.2=0 then 0 else if k % L.length=p.1/\k / L.length<=w then p.2*mv i g.1 g.2.1 g.2.2.1 g.2.2.2 w (k / L.length)else 0
theorem Eg {n w:Nat} {L:List Nat} {f:Nat->Nat×Int} {i j:Nat} {g:M4} (O:TabOk L.length f) (J:g.1.natAbs+g.2.1.natAbs<=2) (M:g.2.2.1.natAbs+g.2.2.2.natAbs<=2) (k:Nat):(L8 n w L f i j g k).natAbs<=2 ^ w:=by
 have I:∀p:Nat×Int,(p=(0,0)∨p.1<L.length/\(p.2=0∨p.2=1∨p.2=-1))->(if p.2=0 then(0:Int)else if k % L.length=p.1/\k / L.length<=w then p.2*mv i g.1 g.2.1 g.2.2.1 g.2.2.2 w (k / L.length)else 0).natAbs<=2 ^ w:=by
  intro p V;have E:p.2.natAbs<=1:=by rcases V with rfl |⟨_,h|h|h⟩ <;> simp[*]
  have U:=iB i g.1 g.2.1 g.2.2.1 g.2.2.2 J M w (k / L.length);split
  ·simp
  split
  ·rw[Int.natAbs_mul]
   exact nM (Nat.mul_le_mul E U) (by rw[Nat.one_mul];exact nL _)
  ·simp
 exact I _ (O _)
def gTurn:M4:=(0,-1,1,0)
def gThird:M4:=(0,-1,1,-1)
def gTwice:M4:=(-1,1,-1,0)
def Ks (n w:Nat) (L:List Nat) (f:Nat->Nat×Int) (r k:Nat):Int:=
 if r<(w+1)*L.length then(if k=r then 1 else 0)+L8 n w L f (r / L.length) (r % L.length) gTurn k
 else(if k=r - (w+1)*L.length then 1 else 0)+L8 n w L f ((r - (w+1)*L.length) / L.length) ((r - (w+1)*L.length) % L.length) gThird k+L8 n w L f ((r - (w+1)*L.length) / L.length) ((r - (w+1)*L.length) % L.length) gTwice k
theorem Rp {n w:Nat} {L:List Nat} {f:Nat->Nat×Int} (E:TabOk L.length f) (O:w<=22) (r k:Nat):(Ks n w L f r k).natAbs<=16777216:=by
 have Z:2 ^ w<=4194304:=nM (Nat.pow_le_pow_right (by decide) O) (by decide);have I:=λi j=>Eg (n:=n) (w:=w) (i:=i) (j:=j) (g:=gTurn) E (by decide) (by decide) k
 have J:=λi j=>Eg (n:=n) (w:=w) (i:=i) (j:=j) (g:=gThird) E (by decide) (by decide) k
 have M:=λi j=>Eg (n:=n) (w:=w) (i:=i) (j:=j) (g:=gTwice) E (by decide) (by decide) k
 unfold Ks;split
 ·have:=I (r / L.length) (r % L.length)
  split <;> omega
 ·have U:=J ((r - (w+1)*L.length) / L.length) ((r - (w+1)*L.length) % L.length)
  have V:=M ((r - (w+1)*L.length) / L.length) ((r - (w+1)*L.length) % L.length);split <;> omega
def Kt (n w:Nat) (D:Int):Nat->Nat->Int:=Ks n w (pts n (n*n)) (Bd n D (pts n (n*n)) n)
def Ao (n:Nat) (D u v:Int):Nat×Int:=Bd n D (pts n (n*n)) n ((u % n).toNat*n+(v % n).toNat)
section
open Go.RowKit Tryz
/-! The units -/
def uns (n:Nat):Nat->List Nat
 | 0=>[]
 | m+1=>if pun n (m+1)then uns n m++[m+1]else uns n m
theorem Hl (n m:Nat):uns n (m+1)=if pun n (m+1)then uns n m++[m+1]else uns n m:=rfl
theorem To {n m s:Nat}:s∈uns n m↔1<=s/\s<=m/\pun n s=true:=by
 induction m with
 | zero=>constructor
         ·intro h;simp[uns]at h
         ·rintro⟨E,J,_⟩;omega
 | succ m ih=>
  rw[Hl];split
  ·rename_i hu
   rw[List.mem_append,ih,List.mem_singleton];constructor
   ·rintro(⟨E,J,I⟩|rfl)
    ·exact⟨E,by omega,I⟩
    ·exact⟨by omega,nL _,hu⟩
   ·rintro⟨E,J,I⟩
    rcases Nat.lt_or_ge s (m+1)with h|h
    ·exact .inl ⟨E,by omega,I⟩
    ·exact .inr (by omega)
  ·rename_i hu
   rw[ih];constructor
   ·rintro⟨E,J,I⟩;exact⟨E,by omega,I⟩
   ·rintro⟨E,J,I⟩
    refine⟨E,?_,I⟩;rcases Nat.lt_or_ge s (m+1)with h|h
    ·omega
    ·have:s=m+1:=by omega
     subst this;exact absurd I hu
theorem K0 (n m:Nat):(uns n m).length<=m:=by
 induction m with
 | zero=>exact nL _
 | succ m ih=>
  rw[Hl];split
  ·rw[List.length_append];simp;exact ih
  ·omega
def Xh (n:Nat) (l:List Nat) (a t i:Nat):Bool:=Ct n l i||((uns n n).take t).any λs=>Az n s a==i
theorem Xj (n:Nat) (l:List Nat) (a i:Nat):Xh n l a 0 i=Ct n l i:=by simp[Xh]
theorem Xi {n:Nat} {l:List Nat} {a t s:Nat} (h:(uns n n)[t]?=some s) (i:Nat):Xh n l a (t+1) i=if i=Az n s a then true else Xh n l a t i:=by
 unfold Xh;rw[List.take_add_one,h,Option.toList_some,List.any_append];simp only[List.any_cons,List.any_nil,Bool.or_false];by_cases e:i=Az n s a
 ·rw[if_pos e,e];simp
 ·rw[if_neg e]
  have:(Az n s a==i)=false:=by simpa using λh=>e h.symm
  rw[this,Bool.or_false]
theorem cJ {n:Nat} {l:List Nat} {a:Nat} (i:Nat):Xh n l a (uns n n).length i=Ct n (l++[a]) i:=by
 unfold Xh;rw[List.take_length];unfold Ct;rw[List.any_append];congr 1;simp only[List.any_cons,List.any_nil,Bool.or_false];rw[Bool.eq_iff_iff];simp only[List.any_eq_true,List.mem_range,Bool.and_eq_true,To];constructor
 ·rintro⟨s,⟨I,J,E⟩,e⟩
  exact⟨s - 1,by omega,by rw[show s - 1+1=s by omega];exact⟨E,e⟩⟩
 ·rintro⟨j,M,E,e⟩
  exact⟨j+1,⟨by omega,by omega,E⟩,e⟩
/-! A row of cells of one kind,written in place: cell i holds f i -/
structure CRow (f:Nat->Value) (w:World) (g m:Nat):Prop where
 stk:Stk NotU32 w g
 free:∀i,i<m->w.frozen? ⟨g,i,none⟩=false
 val:∀i,i<m->w.cell? ⟨g,i,none⟩=some (f i)
theorem CRow.keep {f:Nat->Value} {w w':World} {g m:Nat} (h:CRow f w g m) (I:Below w.heap.size w w'):CRow f w' g m:=
 ⟨h.stk.next I,λi E=>Ab I (by rw[h.val i E];rfl) (h.free i E),λi E=>(I.cell (p:=⟨g,i,none⟩) h.stk.1).trans (h.val i E)⟩
theorem CRow.grown {f:Nat->Value} {w w':World} {g m:Nat} {o:Option Nat} (h:CRow f w g m) (hg:w.grownBy w' o) (J:∀b,o=some b->g≠b):CRow f w' g m:=by
 have E:w'.heap[g]?=w.heap[g]?:=hg.block g h.stk.1 (λe=>J _ e.symm rfl);refine⟨⟨nN h.stk.1 hg.size,λi v M=>h.stk.2 i v ((World.cell?_of_block (a:=⟨g,i,none⟩) E).symm.trans M)⟩,λi I=>(World.frozen?_of_block (a:=⟨g,i,none⟩) E).trans (h.free i I),λi I=>(World.cell?_of_block (a:=⟨g,i,none⟩) E).trans (h.val i I)⟩
theorem CRow.set {f:Nat->Value} {w:World} {g m:Nat} (h:CRow f w g m) (k:Nat) (u:Value) (J:NotU32 u) (f':Nat->Value) (I:∀i,i<m->f' i=if i=k then u else f i):CRow f' (w.setCell ⟨g,k,none⟩ u) g m:=by
 refine⟨Be h.stk _ _ J,λi E=>Aw (h.free i E),λi E=>?_⟩;rw[I i E];by_cases e:i=k
 ·subst e
  rw[if_pos rfl];exact World.cell?_setCell_same' _ _ _ (by rw[h.val i E];rfl)
 ·rw[if_neg e,World.cell?_setCell_other _ _ _ _ (by simp <;> omega)]
  exact h.val i E
theorem CRow.congr {f f':Nat->Value} {w:World} {g m:Nat} (h:CRow f w g m) (e:∀i,i<m->f' i=f i):CRow f' w g m:=⟨h.stk,h.free,λi E=>by rw[e i E];exact h.val i E⟩
theorem CRow.i32 {f:Nat->Value} {w:World} {g m k:Nat} (h:CRow f w g m) (u:Value):I32 w (w.setCell ⟨g,k,none⟩ u):=I32.putU h.stk k u
theorem Wc:(prog.info? 4).map (λi=>(i.zero,i.size,i.bytes))=some (some (.bool false),1,1):=by kernel_rfl
theorem kL (n:Nat) (h:n<=1000000) (w:World):
  (Instr.makeSlice 240 (.int .i64 (n:Int)) (.int .i64 (n:Int))).run prog w=.ok (.slice (some ⟨w.heap.size,0,none⟩) n n) (w.alloc (.cells (madeCells #[.bool false] n) 4)):=by
 obtain⟨i,M,E,I,J⟩:=info_parts Wc;have hr:=run_make (P:=prog) w 240 4 i _ underlying240 M E .i64 .i64 n n (by omega) (Int.le_refl _) (by rw[J];omega) (by omega);rw[Int.toNat_natCast,I,Nat.mul_one]at hr;exact hr
theorem eR {z:Value} {n i:Nat} {v:Value} (h:(madeCells #[z] n)[i]?=some v):v=z:=by
 unfold madeCells at h;simp only[Array.getElem?_map,Array.getElem?_range]at h;split at h
 ·simp only[Option.map_some]at h
  injection h with h
  rw[<-h];have E:i % 1=0:=Nat.mod_one i;show(#[z]:Array Value)[i % 1]! = _;rw[E];rfl
 ·cases h
theorem CRow.made {z:Value} (M:NotU32 z) (w:World) (n:Nat) (t:TypeId):CRow (λ_=>z) (w.alloc (.cells (madeCells #[z] n) t)) w.heap.size n:=by
 have I:=Blk.new w t (madeCells #[z] n);refine⟨Stk.of I ?_,λi _=>I.free_ i,λi E=>?_⟩
 ·intro v J
  obtain⟨i,E⟩:=Array.getElem?_of_mem (Array.mem_toList_iff.1 J);rw[eR E];exact M
 ·rw[I.cell_ i,Array.getElem?_eq_getElem (by rw[size_madeCells];exact E)]
  congr 1;exact eR (Array.getElem?_eq_getElem (by rw[size_madeCells];exact E))
/-! Points -/
def N3 (n a:Nat):List Value:=[.int .i64 ((a / n:Nat):Int),.int .i64 ((a % n:Nat):Int),.int .i64 1]
def OwnPt (n:Nat) (l:List Nat) (w:World) (B:Nat) (v:Value):Prop:=OwnK NotU32 w B 213 3 v l.length (l.flatMap (N3 n))
theorem OwnPt.nil (n:Nat) (w:World) (B:Nat):OwnPt n [] w B (.slice none 0 0):=OwnK.nil _ _ _ _ _
theorem OwnPt.keep {n:Nat} {l:List Nat} {w w':World} {B:Nat} {v:Value} (h:OwnPt n l w B v) (E:Below w.heap.size w w'):OwnPt n l w' B v:=OwnK.keep h E
theorem OwnPt.push {n:Nat} {l:List Nat} {w':World} {B:Nat} {E:Value} {a:Nat} (h:OwnK NotU32 w' B 213 3 E (l.length+1) (l.flatMap (N3 n)++N3 n a)):OwnPt n (l++[a]) w' B E:=by
 unfold OwnPt;rw[List.flatMap_append,List.length_append]
 simpa using h
theorem OwnK.other {K:Value->Prop} {w:World} {B E sz n:Nat} {v:Value} {I:List Value} (h:OwnK K w B E sz v n I) {a:Addr} (J:a.block<B) {u:Value} (M:K u):OwnK K (w.setCell a u) B E sz v n I:=
 ⟨ownsRow_setCell_below h.1 J u,λg hg=>Be (h.2 g hg) _ _ M⟩
theorem Ze:(prog.info? 213).map (λi=>(i.zero,i.size,i.bytes))=some (some (.agg #[.int .i64 0,.int .i64 0,.int .i64 0]),3,24):=by kernel_rfl
def PtL (n:Nat) (l:List Nat) (w:World) (B:Nat) (v:Value):Prop:=(l=[]/\∃a c,v=.slice a 0 c)∨∃g cap,v=.slice (some ⟨g,0,none⟩) l.length cap/\g<B/\∀(j a:Nat),l[j]?=some a->w.cell? ⟨g,j*3,none⟩=some (.int .i64 ((a / n:Nat):Int))/\w.cell? ⟨g,j*3+1,none⟩=some (.int .i64 ((a % n:Nat):Int))/\w.cell? ⟨g,j*3+2,none⟩=some (.int .i64 1)
theorem Ee {n:Nat}:∀{l:List Nat} {j a i:Nat},l[j]?=some a->i<3->(l.flatMap (N3 n))[j*3+i]?=(N3 n a)[i]?
 | [],j,a,i,h,_=>by simp at h
 | x :: l,0,a,i,h,hi=>by
  simp at h;subst h;rw[List.flatMap_cons,List.getElem?_append_left (by simp[N3];omega),Nat.zero_mul,Nat.zero_add]
 | x :: l,j+1,a,i,h,hi=>by
  rw[List.getElem?_cons_succ]at h;rw[List.flatMap_cons,List.getElem?_append_right (by simp[N3];omega)];have e:(j+1)*3+i - (N3 n x).length=j*3+i:=by simp[N3];omega
  rw[e];exact Ee h hi
theorem OwnPt.ptl {n:Nat} {l:List Nat} {w:World} {B:Nat} {v:Value} (h:OwnPt n l w B v):PtL n l w w.heap.size v:=by
 rcases h.1.2 with⟨E,M⟩ |⟨g,cap,cs,E,hB,hg,hn,O,U,_⟩
 ·exact .inl ⟨List.eq_nil_of_length_eq_zero M,_,_,E⟩
 ·have V:=h.2 g (by rw[E];rfl)
  have I:=h.1;subst E;refine .inr ⟨g,cap,rfl,V.1,λj a J=>⟨?_,?_,?_⟩⟩
  ·exact Ai I ((Ee (i:=0) J (by omega)).trans rfl)
  ·exact Ai I ((Ee (i:=1) J (by omega)).trans rfl)
  ·exact Ai I ((Ee (i:=2) J (by omega)).trans rfl)
theorem PtL.next {n:Nat} {l:List Nat} {w w':World} {B:Nat} {v:Value} (h:PtL n l w B v) (E:Below B w w'):PtL n l w' B v:=by
 rcases h with h |⟨g,cap,e,hg,U⟩
 ·exact .inl h
 ·exact .inr ⟨g,cap,e,hg,λj a O=>by
   obtain⟨I,J,M⟩:=U j a O;exact⟨(E.cell (p:=⟨g,_,none⟩) hg).trans I,(E.cell (p:=⟨g,_,none⟩) hg).trans J,(E.cell (p:=⟨g,_,none⟩) hg).trans M⟩⟩
theorem PtL.up {n:Nat} {l:List Nat} {w:World} {B B':Nat} {v:Value} (h:PtL n l w B v) (hB:B<=B'):PtL n l w B' v:=by
 rcases h with h |⟨g,cap,e,hg,E⟩
 ·exact .inl h
 ·exact .inr ⟨g,cap,e,nN hg hB,E⟩
theorem Sc (n:Int) (w:World) (E:0<n) (hn:n<=120):Calls prog 186 #[.int .i64 n] w λe w'=>e=.returned (.int .i64 0)/\w'=w:=by
 go_enter func186,ntmps186
 go_wp2;go_ret;exact⟨rfl,rfl⟩
theorem Ms (n:Nat) (w:World) (h0:0<n) (hn:n<=120):
  Calls prog 142 #[.int .i64 n] w λe w'=>(∃v,e=.returned (.tuple #[v,.int .i64 0])/\OwnPt n (pts n (n*n)) w' w.heap.size v)/\Below w.heap.size w w':=by
 obtain⟨O,bA⟩:∃m,n*n=m:=⟨_,rfl⟩
 have oZ:O<=14400:=by rw[<-bA];exact Nat.mul_le_mul hn hn
 have pC:(n:Int)*(n:Int)=(O:Nat):=by rw[<-bA];push_cast;rfl
 have oH:=kL O (by omega);have hW:=Kh bA;rw[bA];clear bA;go_enter func142,ntmps142
 go_wp2_with fail
 refine(Sc n w (by omega) (by omega)).mono ?_;rintro e w1 ⟨rfl,rfl⟩;go_wp2_with fail
 go_loopw [5,6] (λv s wr=>∃m:Nat,m<=n/\s=.int .i64 ((m:Int)+1)/\OwnN (uns n m) wr w1.heap.size v/\Below w1.heap.size w1 wr) (λ_ s _=>n+1 - (intOf s).toNat)
 case atStart=>exact⟨0,Nat.zero_le _,rfl,OwnN.nil _ _,Below.refl _ _⟩
 case round=>
  obtain⟨m,hm,rfl,eG,hb⟩:=hrel;obtain⟨w2,rfl⟩:∃w2:World,w2=wr:=⟨_,rfl⟩
  have aD:=Kh eG;have HB:=Kh hb;clear eG hb;by_cases hlt:m<n
  ·have pB:(m:Int)+1<=(n:Int):=by omega
   go_wp2_with fail
   refine(Ec ((m:Int)+1) n w2 (by omega) (by omega) (by omega) (by omega)).mono ?_;rintro e w3 ⟨rfl,k,rfl⟩
   have mD:Int.gcd ((m:Int)+1) (n:Int)=Nat.gcd (m+1) n:=by
    have:((m:Int)+1)=((m+1:Nat):Int):=by push_cast;rfl
    rw[this];rfl
   rw[mD];have cC:=Kh (Aa HB.1 k);have hX:=Kh (aD.1.keep (Aa (Below.refl _ w2) k));clear mD;by_cases E:pun n (m+1)=true
   ·have hu2:(((Nat.gcd (m+1) n:Nat):Int)==1)=true:=by unfold pun at E;simp only[beq_iff_eq]at E;rw[E];rfl
    have HU:=Kh E;have aN:=Kh (K0 n m);have hV:=Kh (show OwnK NotU32 (w2.drewN k) w1.heap.size 3 1 u5 (uns n m).length ((uns n m).map λn:Nat=>Value.int .i64 (n:Int))from hX.1);clear E;go_wp2_with (at_builtin;refine Bk NotU32 rfl (.tmp 28) (.tmp 30) _ 3 rfl underlying93 Es rfl (by decide) w1.heap.size (uns n m).length u5 ((uns n m).map λn:Nat=>Value.int .i64 (n:Int)) [.int .i64 ((m:Int)+1)] rfl hV.1 rfl rfl (by intro u E;simp at E;subst E;rfl) (by have:=aN.1;omega) (by have:=aN.1;omega) cC.1.size (by intro u E;simp at E;subst E;exact λ_ h=>by cases h) (by intro u E;simp[Value.cells]at E;subst E;exact λ_ h=>by cases h) ?_;intro v9 w9 I M bB;have cG:=Kh (show OwnN (uns n m++[m+1]) w9 w1.heap.size v9 from OwnN.push (by rw[show(((m+1:Nat):Int))=(m:Int)+1 by push_cast;rfl];exact I));have cB:=Kh (cC.1.trans (At (Below.refl _ _) hV.1.1 M (nL _) cC.1.size));clear I M bB)
    go_roundw
    case rel=>exact⟨m+1,by omega,by go_num,by rw[Hl,if_pos HU.1];exact cG.1,cB.1⟩
    case measure=>simp[intOf];omega
   ·have hu2:(((Nat.gcd (m+1) n:Nat):Int)==1)=false:=by
     unfold pun at E;simp only[beq_iff_eq]at E;simp;omega
    have HU:=Kh E;clear E;go_wp2;go_roundw
    case rel=>exact⟨m+1,by omega,by go_num,by rw[Hl,if_neg HU.1];exact hX.1,cC.1⟩
    case measure=>simp[intOf];omega
  ·obtain rfl:n=m:=by omega
   go_wp2_with fail
   obtain⟨J,oF⟩:∃g,w2.heap.size=g:=⟨_,rfl⟩
   have U:=CRow.made (z:=.bool false) (λ_ h=>by cases h) w2 O 4;obtain⟨wS,hM⟩:∃wS,w2.alloc (.cells (madeCells #[.bool false] O) 4)=wS:=⟨_,rfl⟩
   have hH:Below w2.heap.size w2 wS:=hM▸(Below.refl _ _).alloc (nL _) _;rw[hM]at U ⊢;obtain⟨pu,cu,oK⟩:=Bg (show OwnK NotU32 w2 w1.heap.size 3 1 u5 (uns n n).length _ from aD.1).1;subst oK;have hI:=OwnN.nl aD.1;have gI:=Kh HB.1.size;rw[oF]at U hH hI gI ⊢;have nY:=Kh hI;have hS:=Kh hH;have hU:=Kh (show CRow (λi=>.bool (Ct n (pts n 0) i)) wS J O from U.congr (λi _=>rfl));have oW:=Kh (K0 n n);clear U hH hI hM aD oH;go_loopw [7,38] (λv ii wr=>∃k:Nat,k<=O/\ii=.int .i64 k/\OwnPt n (pts n k) wr (J+1) v/\CRow (λi=>.bool (Ct n (pts n k) i)) wr J O/\Below J wS wr) (λ_ ii _=>O - (intOf ii).toNat)
   case atStart=>exact⟨0,Nat.zero_le _,rfl,OwnPt.nil _ _ _,hU.1,Below.refl _ _⟩
   case round=>
    obtain⟨k,hk,rfl,mE,U,mA⟩:=hrel;obtain⟨w3,rfl⟩:∃w3:World,w3=wr:=⟨_,rfl⟩
    have gN:=Kh mE;have gL:=Kh U;have eX:=Kh mA;clear mE mA hU;by_cases hkN:k<O
    ·have pA:(k:Int)<(O:Int):=by omega
     have hq:(k:Int).tdiv (n:Int)=((k / n:Nat):Int):=by rw[Int.tdiv_eq_ediv_of_nonneg (by omega)];rfl
     have hr:(k:Int).tmod (n:Int)=((k % n:Nat):Int):=by rw[Int.tmod_eq_emod_of_nonneg (by omega)];rfl
     have oD:k / n<n:=Nat.div_lt_of_lt_mul (by rw[hW.1];exact hkN);have oE:k % n<n:=Nat.mod_lt _ h0;obtain⟨u,E⟩:∃u,k / n=u:=⟨_,rfl⟩
     obtain⟨v,hv⟩:∃v,k % n=v:=⟨_,rfl⟩
     rw[E]at hq oD;rw[hv]at hr oE;have HU:=Kh E;have HV:=Kh hv;have oI:(n:Int)≠0:=by omega
     have s0:=U.val k hkN;clear E hv U;go_wp2_with fail
     go_quiet (fail)
     generalize hw4:w3.drewN nq=w4;have bC:Below w3.heap.size w3 w4:=hw4▸Aa (Below.refl _ _) nq;have s4:=Ad bC s0;have eY:=Kh (eX.1.trans (bC.mono (Nat.le_of_lt gL.1.stk.1)));have aX:=Kh (gN.1.keep bC);have cD:=Kh (gL.1.keep bC);clear hw4 bC s0 gN gL eX hq hr;cases hs:Ct n (pts n k) k with
     | true=>
      rw[hs]at s4;have HP:=Kh (show pts n (k+1)=pts n k by rw[Cv,hs];simp);clear hs;go_wp2;go_roundw
      case rel=>exact⟨k+1,by omega,by go_num,by rw[HP.1];exact aX.1,by rw[HP.1];exact cD.1,eY.1⟩
      case measure=>simp[intOf];omega
     | false=>
      rw[hs]at s4;have HS:=Kh hs;clear hs;go_wp2_with fail
      refine(Ec u v w4 (by omega) (by omega) (by omega) (by omega)).mono ?_;rintro e w5 ⟨rfl,m1,rfl⟩;have mB:Int.gcd (u:Int) (v:Int)=Nat.gcd u v:=rfl;rw[mB]
      have oG:Nat.gcd u v<=n+n:=by
       rcases Nat.eq_zero_or_pos u with h|h
       ·subst h;rw[Nat.gcd_zero_left];omega
       ·have:=Nat.gcd_le_left v h;omega
      go_wp2_with fail
      refine(Ec ((Nat.gcd u v:Nat):Int) n _ (by omega) (by omega) (by omega) (by omega)).mono ?_;rintro e w6 ⟨rfl,m2,rfl⟩;have mC:Int.gcd ((Nat.gcd u v:Nat):Int) (n:Int)=Nat.gcd (Nat.gcd u v) n:=rfl;rw[mC];generalize hw5:(w4.drewN m1).drewN m2=w5;have dC:Below w4.heap.size w4 w5:=hw5▸Aa (Aa (Below.refl _ _) m1) m2;have gA:=Kh (eY.1.trans (dC.mono (Nat.le_of_lt cD.1.stk.1)));have V:=Kh (aX.1.keep dC);have aK:=Kh (cD.1.keep dC);have hY:=Kh (show E5 n k=(Nat.gcd (Nat.gcd u v) n==1)by unfold E5;rw[HU.1,HV.1]);clear hw5 dC s4 aX cD eY mB mC oG;cases ho:(Nat.gcd (Nat.gcd u v) n==1)with
      | false=>
       have oJ:(((Nat.gcd (Nat.gcd u v) n:Nat):Int) != 1)=true:=by
        simp only[beq_eq_false_iff_ne]at ho;simp;omega
       have HP:=Kh (show pts n (k+1)=pts n k by rw[Cv,hY.1,ho];simp);clear ho;go_wp2;go_roundw
       case rel=>exact⟨k+1,by omega,by go_num,by rw[HP.1];exact V.1,by rw[HP.1];exact aK.1,gA.1⟩
       case measure=>simp[intOf];omega
      | true=>
       have oJ:(((Nat.gcd (Nat.gcd u v) n:Nat):Int) != 1)=false:=by
        simp only[beq_iff_eq]at ho;rw[ho];rfl
       have HP:=Kh (show pts n (k+1)=pts n k++[k]by rw[Cv,hY.1,ho,HS.1];rfl)
       have aN:=Kh (show(pts n k).length<=14400 by
        have h1:(pts n k).length<=k:=B9 n k;omega)
       clear ho;go_wp2_with (at_builtin;refine Bk NotU32 rfl (.tmp 59) (.tmp 63) _ 213 rfl underlying159 Ze rfl (by decide) (J+1) (pts n k).length u7 ((pts n k).flatMap (N3 n)) [.int .i64 (u:Int),.int .i64 (v:Int),.int .i64 1] rfl V.1 rfl rfl (by intro u E;simp at E;rcases E with rfl|rfl|rfl <;> rfl) (by have:=aN.1;omega) (by have:=aN.1;omega) aK.1.stk.1 (by intro u E;simp at E;rcases E with rfl|rfl|rfl <;> exact λ_ h=>by cases h) (by intro u E;simp[Value.cells]at E;rcases E with rfl|rfl|rfl <;> exact λ_ h=>by cases h) ?_;intro v9 w9 I M bB;have cG:=Kh (show OwnPt n (pts n k++[k]) w9 (J+1) v9 from OwnPt.push (by rw[show N3 n k=[.int .i64 (u:Int),.int .i64 (v:Int),.int .i64 1]by unfold N3;rw[HU.1,HV.1]];exact I));have cB:=Kh (gA.1.trans ((At (Below.refl _ _) V.1.1 M (nL _) aK.1.stk.1).mono (Nat.le_succ J)));have hT:=Kh (show CRow (λi=>.bool (Xh n (pts n k) k 0 i)) w9 J O from(aK.1.grown M (λb hb=>by have:=Cl V.1.1 hb.symm;omega)).congr (λi _=>by rw[Xj]));clear I M bB)
       clear V aK gA;go_loopw [67] (λii w6=>∃t:Nat,t<=(uns n n).length/\ii=.int .i64 t/\CRow (λi=>.bool (Xh n (pts n k) k t i)) w6 J O/\OwnPt n (pts n k++[k]) w6 (J+1) v9/\Below J wS w6) (λii _=>(uns n n).length - (intOf ii).toNat)
       case atStart=>exact⟨0,Nat.zero_le _,rfl,hT.1,cG.1,cB.1⟩
       case round=>
        obtain⟨t,ht,rfl,eF,eP,iL⟩:=hrel;obtain⟨w6,rfl⟩:∃w6:World,w6=wr:=⟨_,rfl⟩
        have cF:=Kh eF;have dY:=Kh eP;have gF:=Kh iL;clear eF eP iL hT cG cB;by_cases htl:t<(uns n n).length
        ·have pF:(t:Int)<((uns n n).length:Int):=by omega
         obtain⟨s,hs⟩:∃s,(uns n n)[t]?=some s:=⟨_,List.getElem?_eq_getElem htl⟩
         have hL:=To.1 (List.mem_of_getElem? hs);have pD:=hL.1;have pE:=hL.2.1;have oA:=Kh hs;rcases nY.1.next (hS.1.trans gF.1)with⟨oC,_⟩ |⟨gU,oN,e,_,_,_,hx⟩
         ·rw[oC]at htl;simp at htl
         cases e;have c0:=hx t s hs;obtain⟨SU,cT⟩:∃x,s*u=x:=⟨_,rfl⟩
         obtain⟨SW,cX⟩:∃x,s*v=x:=⟨_,rfl⟩
         obtain⟨P1,cI⟩:∃x,SU % n=x:=⟨_,rfl⟩
         obtain⟨P2,cM⟩:∃x,SW % n=x:=⟨_,rfl⟩
         obtain⟨PN,cS⟩:∃x,P1*n=x:=⟨_,rfl⟩
         have b1:SU<=14400:=by rw[<-cT];exact Nat.mul_le_mul (by omega:s<=120) (by omega:u<=120)
         have b2:SW<=14400:=by rw[<-cX];exact Nat.mul_le_mul (by omega:s<=120) (by omega:v<=120)
         have b3:P1<n:=cI▸Nat.mod_lt _ h0;have b4:P2<n:=cM▸Nat.mod_lt _ h0;have b5:PN<=14400:=by rw[<-cS];exact Nat.mul_le_mul (by omega:P1<=120) (by omega:n<=120)
         have e1:(s:Int)*(u:Int)=(SU:Nat):=by rw[<-cT];push_cast;rfl
         have e2:(s:Int)*(v:Int)=(SW:Nat):=by rw[<-cX];push_cast;rfl
         have e3:(SU:Int).tmod (n:Int)=(P1:Nat):=by rw[Int.tmod_eq_emod_of_nonneg (by omega),<-cI];rfl
         have e4:(SW:Int).tmod (n:Int)=(P2:Nat):=by rw[Int.tmod_eq_emod_of_nonneg (by omega),<-cM];rfl
         have e5:(P1:Int)*(n:Int)=(PN:Nat):=by rw[<-cS];push_cast;rfl
         have hJ:PN+P2=Az n s k:=by unfold Az;rw[HU.1,HV.1,cT,cX,cI,cM,cS]
         obtain⟨Z,hG⟩:∃x,PN+P2=x:=⟨_,rfl⟩
         have e6:(PN:Int)+(P2:Int)=(Z:Nat):=by omega
         have hZ:Z<O:=by rw[<-hG,hJ,<-hW.1];exact S7 h0 s k
         have oP:(Z:Int)<(O:Int):=by omega
         have nX:=Kh (show Z=Az n s k by rw[<-hG,hJ]);have d0:=cF.1.val Z hZ;have d1:=cF.1.free Z hZ;have i0:(0:Int)<=(Z:Int):=by omega
         have v1:IntKind.i64.wrap (SU:Int)=(SU:Nat):=IntWalk.i64_in _ (by omega);have v2:IntKind.i64.wrap (SW:Int)=(SW:Nat):=IntWalk.i64_in _ (by omega);have v3:IntKind.i64.wrap (PN:Int)=(PN:Nat):=IntWalk.i64_in _ (by omega);have v5:IntKind.i64.wrap (P1:Int)=(P1:Nat):=IntWalk.i64_in _ (by omega);have v6:IntKind.i64.wrap (P2:Int)=(P2:Nat):=IntWalk.i64_in _ (by omega);have z1:((n:Int)==0)=false:=by simpa using oI
         have z2:n≠0:=by omega
         have v4:IntKind.i64.wrap (Z:Int)=(Z:Nat):=IntWalk.i64_in _ (by omega);have nU:=Kh (show CRow (λi=>.bool (Xh n (pts n k) k (t+1) i)) (w6.setCell ⟨J,Z,none⟩ (.bool true)).drew J O from(cF.1.set Z (.bool true) (λ_ h=>by cases h) (λi=>.bool (Xh n (pts n k) k (t+1) i)) (λi _=>by rw[Xi oA.1 i,<-nX.1];split <;> rfl)).keep (Below.refl _ _).drew);have nZ:=Kh (show OwnPt n (pts n k++[k]) (w6.setCell ⟨J,Z,none⟩ (.bool true)).drew (J+1) v9 from OwnPt.keep (OwnK.other dY.1 (a:=⟨J,Z,none⟩) (nO J) (λ_ h=>by cases h)) (Below.refl _ _).drew);have nS:=Kh (show Below J wS (w6.setCell ⟨J,Z,none⟩ (.bool true)).drew from(gF.1.setCell (p:=⟨J,Z,none⟩) (nL _) _).drew);clear cT cX cI cM cS hJ hG hs hL hx;go_upto_region 21 with(fail)
         go_region_held3 (λ_=>True) (trivial) (fail)
         all_goals go_wp2
         all_goals go_roundw
         all_goals first
          | exact⟨t+1,by omega,by go_num,nU.1,nZ.1,nS.1⟩
          |(simp[intOf];omega)
        ·obtain rfl:(uns n n).length=t:=by omega
         have nT:=Kh (show CRow (λi=>.bool (Ct n (pts n k++[k]) i)) w6 J O from cF.1.congr (λi _=>by rw[cJ]));go_wp2;go_roundw
         case rel=>exact⟨k+1,by omega,by go_num,by rw[HP.1];exact dY.1,by rw[HP.1];exact nT.1,gF.1⟩
         case measure=>simp[intOf];omega
    ·obtain rfl:O=k:=by omega
     have nW:=Kh (show OwnPt n (pts n O) w3 w1.heap.size u7 from by
      obtain⟨⟨e0,h1⟩,h2⟩:=gN.1;refine⟨⟨e0,?_⟩,h2⟩;rcases h1 with h1 |⟨g,cap,cs,e1,hg,rest⟩
      ·exact .inl h1
      ·exact .inr ⟨g,cap,cs,e1,by have:=gI.1;omega,rest⟩)
     have nV:=Kh (HB.1.trans ((hS.1.trans eX.1).mono gI.1));clear U;go_wp2
     (first|go_ret2|go_ret)
     exact⟨⟨_,rfl,nW.1⟩,nV.1⟩
def plc (f:Nat->Nat×Int) (i:Nat):Value:=.int .i64 (if i % 2=0 then((f (i / 2)).1:Int)else(f (i / 2)).2)
theorem dH (f:Nat->Nat×Int) (p i:Nat) (x:Nat×Int):plc (P8 f p x) i=if i=p*2+1 then .int .i64 x.2 else if i=p*2 then .int .i64 (x.1:Int)else plc f i:=by
 unfold plc P8;by_cases h1:i=p*2+1
 ·subst h1
  rw[if_pos rfl,if_neg (by omega),show(p*2+1) / 2=p by omega,if_pos rfl]
 ·rw[if_neg h1]
  by_cases h2:i=p*2
  ·subst h2
   rw[if_pos rfl,if_pos (by omega),show p*2 / 2=p by omega,if_pos rfl]
  ·have E:i / 2≠p:=by omega
   simp only[if_neg h2,if_neg E]
theorem CRow.place {f:Nat->Nat×Int} {w:World} {g m p:Nat} (h:CRow (plc f) w g m) (x:Nat×Int):CRow (plc (P8 f p x)) ((w.setCell ⟨g,p*2,none⟩ (.int .i64 (x.1:Int))).setCell ⟨g,p*2+1,none⟩ (.int .i64 x.2)) g m:=by
 have E:=h.set (p*2) (.int .i64 (x.1:Int)) (λ_ h=>by cases h) (λi=>if i=p*2 then .int .i64 (x.1:Int)else plc f i) (λi _=>rfl);exact E.set (p*2+1) (.int .i64 x.2) (λ_ h=>by cases h) _ (λi _=>by rw[dH])
theorem iM:(prog.info? 215).map (λi=>(i.zero,i.size,i.bytes))=some (some (.agg #[.int .i64 0,.int .i64 0]),2,16):=by kernel_rfl
theorem eS {z:Value} {n i:Nat} {v:Value} (h:(madeCells #[z,z] n)[i]?=some v):v=z:=by
 unfold madeCells at h;simp only[Array.getElem?_map,Array.getElem?_range]at h;split at h
 ·simp only[Option.map_some]at h
  injection h with h
  rw[<-h];have E:i % 2=0∨i % 2=1:=by omega
  show(#[z,z]:Array Value)[i % 2]! = _;rcases E with E|E <;> rw[E] <;> rfl
 ·cases h
theorem kN (n:Nat) (h:n<=1000000) (w:World):
  (Instr.makeSlice 160 (.int .i64 (n:Int)) (.int .i64 (n:Int))).run prog w=.ok (.slice (some ⟨w.heap.size,0,none⟩) n n) (w.alloc (.cells (madeCells #[.int .i64 0,.int .i64 0] (n*2)) 215)):=by
 obtain⟨i,M,E,I,J⟩:=info_parts iM;have hr:=run_make (P:=prog) w 160 215 i _ underlying160 M E .i64 .i64 n n (by omega) (Int.le_refl _) (by rw[J];omega) (by omega);rw[Int.toNat_natCast,I]at hr;exact hr
theorem CRow.places (w:World) (n:Nat):CRow (plc (λ_=>(0,0))) (w.alloc (.cells (madeCells #[.int .i64 0,.int .i64 0] (n*2)) 215)) w.heap.size (n*2):=by
 have I:=Blk.new w 215 (madeCells #[.int .i64 0,.int .i64 0] (n*2));refine⟨Stk.of I ?_,λi _=>I.free_ i,λi E=>?_⟩
 ·intro v J
  obtain⟨i,E⟩:=Array.getElem?_of_mem (Array.mem_toList_iff.1 J);rw[eS E];exact λ_ h=>by cases h
 ·rw[I.cell_ i,Array.getElem?_eq_getElem (by rw[size_madeCells];exact E)]
  congr 1;rw[eS (Array.getElem?_eq_getElem (by rw[size_madeCells];exact E))];unfold plc;split <;> rfl
structure WorldAt (w:World) (T B n wt:Nat) (L:List Nat) (f:Nat->Nat×Int):Prop where
 lt:T<B
 c0:w.cell? ⟨T,0,none⟩=some (.int .i64 (n:Int))
 c1:w.cell? ⟨T,1,none⟩=some (.int .i64 (wt:Int))
 c2:∃p c,w.cell? ⟨T,2,none⟩=some (.slice p L.length c)/\PtL n L w B (.slice p L.length c)
 c3:∃g,w.cell? ⟨T,3,none⟩=some (.slice (some ⟨g,0,none⟩) (n*n) (n*n))/\g<B/\∀i,i<n*n*2->w.cell? ⟨g,i,none⟩=some (plc f i)
theorem WorldAt.next {w w':World} {T B B' n wt:Nat} {L:List Nat} {f:Nat->Nat×Int} (h:WorldAt w T B n wt L f) (I:Below B' w w') (hB:B<=B'):WorldAt w' T B n wt L f:=by
 have E:∀g i v,g<B->w.cell? ⟨g,i,none⟩=some v->w'.cell? ⟨g,i,none⟩=some v:=λg i v hg e=>(I.cell (p:=⟨g,i,none⟩) (nN hg hB)).trans e
 obtain⟨p,c,J,O⟩:=h.c2;obtain⟨g,M,hg,U⟩:=h.c3;exact⟨h.lt,E _ _ _ h.lt h.c0,E _ _ _ h.lt h.c1,⟨p,c,E _ _ _ h.lt J,O.next (I.mono hB)⟩,g,E _ _ _ h.lt M,hg,λi V=>E _ _ _ hg (U i V)⟩
theorem WorldAt.keep {w w':World} {T B n wt:Nat} {L:List Nat} {f:Nat->Nat×Int} (h:WorldAt w T B n wt L f) (hB:B<=w.heap.size) (E:Below w.heap.size w w'):WorldAt w' T B n wt L f:=h.next E hB
theorem WorldAt.up {w:World} {T B B' n wt:Nat} {L:List Nat} {f:Nat->Nat×Int} (h:WorldAt w T B n wt L f) (hB:B<=B'):WorldAt w T B' n wt L f:=by
 obtain⟨p,c,E,J⟩:=h.c2;obtain⟨g,I,hg,M⟩:=h.c3;exact⟨nN h.lt hB,h.c0,h.c1,⟨p,c,E,J.up hB⟩,g,I,nN hg hB,M⟩
theorem PtL.but {n:Nat} {l:List Nat} {w w':World} {B G:Nat} {v:Value} (h:PtL n l w B v) (hg:w.grownBy w' (some G)) (Z:B<=G):PtL n l w' B v:=by
 rcases h with h |⟨g,cap,e,I,V⟩
 ·exact .inl h
 ·have E:∀i,some (⟨g,i,none⟩:Addr).block≠some G:=λi e=>by injection e with e;simp at e;omega
  exact .inr ⟨g,cap,e,I,λj a U=>by
   obtain⟨J,M,O⟩:=V j a U;exact⟨hg.cell J (E _),hg.cell M (E _),hg.cell O (E _)⟩⟩
theorem Gf (n wt:Nat) (D:Int) (w:World) (hT:Tab w) (h0:0<n) (hn:n<=120) (qM:wt<=22) (hD:-120<=D) (qA:D<=120) (nY:Pl.check n ((wt:Int)+2) D=0):
  Calls prog 91 #[.agg #[.int .i64 n,.int .i64 ((wt:Int)+2),.int .i64 D]] w λe w'=>(∃T,e=.returned (.tuple #[.pointer (some ⟨T,0,none⟩),.int .i64 0])/\WorldAt w' T w'.heap.size n wt (pts n (n*n)) (Bd n D (pts n (n*n)) n))/\Below w.heap.size w w':=by
 obtain⟨L,hL⟩:∃l,pts n (n*n)=l:=⟨_,rfl⟩
 have pC:L.length<=n*n:=hL▸B9 n (n*n);obtain⟨J,bE⟩:∃m,n*n=m:=⟨_,rfl⟩
 have qC:J<=14400:=by rw[<-bE];exact Nat.mul_le_mul hn hn
 have qL:(n:Int)*(n:Int)=(J:Nat):=by rw[<-bE];push_cast;rfl
 have pF:=kN J (by omega);have gS:=Kh bE;have nS:=Kh hT;have mD:=Kh nY;have nB:=Kh hL;rw[hL];rw[bE]at pC;clear bE hT nY hL;go_enter func91,ntmps91
 go_wp2_with fail
 obtain⟨w0,oH,X0,hJ⟩:=bx1 w #[.int .i64 n,.int .i64 ((wt:Int)+2),.int .i64 D] 23;rw[oH];refine(Fo n ((wt:Int)+2) D w0).mono ?_;rintro e w1 ⟨rfl,hM⟩;rw[mD.1];have X1:=X0.below_ hM X0.lt;have x0:=X1.at_ 0 rfl;have mB:=Kh (hJ.trans (hM.mono hJ.size));have nT:=Kh X1;clear oH X0 hJ hM X1;go_wp2_with fail
 refine(Ms n w1 h0 hn).mono ?_;rintro e M ⟨⟨lv,rfl,hW⟩,hN⟩;obtain⟨pl,cl,hlv⟩:=Bg hW.1;subst hlv;have cB:=hW.ptl;rw[nB.1]at cB ⊢;have nC:=Kh cB;have bB:=Kh (bk nT hN);have gA:=bt mB hN;have nR:=Kh (nS.1.below gA.1);have a0:=bB.1.at_ 0 rfl;have a1:=bB.1.at_ 1 rfl;have pS:(wt:Int)+2 - 2=(wt:Nat):=by omega
 have pT:(0:Int)<=(wt:Int):=by omega
 have vN:IntKind.i64.wrap (J:Int)=(J:Nat):=IntWalk.i64_in _ (by omega);have vW:IntKind.i64.wrap (wt:Int)=(wt:Nat):=IntWalk.i64_in _ (by omega);clear hW cB hN x0 mB nT nS mD;go_upto_region 8 with(fail)
 have Z:=Kh (show ∀w4,Below M.heap.size M w4->(w4.cell? ⟨w.heap.size,1,none⟩=some (.int .i64 ((wt:Int)+2)))from λw4 hb=>Ad hb a1);have bY:=Z.1 _ (Below.refl _ M).drew
 go_region_held3 (λw4=>w4.cell? ⟨w.heap.size,1,none⟩=some (.int .i64 ((wt:Int)+2)))
  (first|with_reducible exact bY|exact Z.1 _ ((Below.refl _ M).drew.alloc (nL _) _)|exact Z.1 _ (((Below.refl _ M).alloc (nL _) _).drew)|exact Z.1 _ (((Below.refl _ M).drew.alloc (nL _) _).alloc (Nat.le_of_lt (by simp)) _)|exact Z.1 _ ((((Below.refl _ M).alloc (nL _) _).drew).alloc (Nat.le_of_lt (by simp)) _) |(exfalso;assumption))
  (fail)
 all_goals go_wp2
 have eT:=CRow.places M J;obtain⟨wx,eG⟩:∃wx,((M.alloc (.cells (madeCells #[.int .i64 0,.int .i64 0] (J*2)) 215)).alloc (.cells #[.int .i64 n,.int .i64 wt,.slice pl L.length cl,.slice (some ⟨M.heap.size,0,none⟩) J J] 162)).drew=wx:=⟨_,rfl⟩
 have hQ:Below M.heap.size M (M.alloc (.cells (madeCells #[.int .i64 0,.int .i64 0] (J*2)) 215)):=(Below.refl _ _).alloc (nL _) _;have hR:Below (M.alloc (.cells (madeCells #[.int .i64 0,.int .i64 0] (J*2)) 215)).heap.size (M.alloc (.cells (madeCells #[.int .i64 0,.int .i64 0] (J*2)) 215)) wx:=eG▸((Below.refl _ _).alloc (nL _) _).drew;have oF:(M.alloc (.cells (madeCells #[.int .i64 0,.int .i64 0] (J*2)) 215)).heap.size=M.heap.size+1:=by simp
 have cA:=eT.keep hR
 have aK:Blk wx (M.heap.size+1) 162 #[.int .i64 n,.int .i64 wt,.slice pl L.length cl,.slice (some ⟨M.heap.size,0,none⟩) J J]:=by
  have h:=Blk.new (M.alloc (.cells (madeCells #[.int .i64 0,.int .i64 0] (J*2)) 215)) 162 #[.int .i64 n,.int .i64 wt,.slice pl L.length cl,.slice (some ⟨M.heap.size,0,none⟩) J J];rw[oF]at h;exact eG▸h.below_ (Below.refl _ _).drew h.lt
 have U:Below M.heap.size M wx:=hQ.trans (hR.mono hQ.size);have hX:=bk bB U;have cC:=nC.1.next U
 rw[eG];obtain⟨I,hS⟩:∃I,M.heap.size=I:=⟨_,rfl⟩
 obtain⟨T,nV⟩:∃T,I+1=T:=⟨_,rfl⟩
 obtain⟨gs,oE⟩:∃gs,w.heap.size=gs:=⟨_,rfl⟩
 have oS:=Kh (show gs<I by have:=bB.1.lt;omega);have gU:=Kh (show w.heap.size<=I by have:=gA.1.size;omega);rw[hS]at cA aK U cC ⊢;rw[nV]at aK ⊢;rw[oE]at hX ⊢;have mE:=Kh cA;have bA:=Kh aK;have oO:=Kh U;have oY:=Kh hX;have nQ:=Kh cC;have nA:=Kh (show T≠I by omega);have oW:=Kh (show ∀w',wx.grownBy w' (some I)->Tab w' from λw' hg=>nR.1.below (hS▸Aq U hg (by have:=U.size;omega) (nL _)));have gN:=Kh (show I<=wx.heap.size by have:=aK.lt;omega);have oU:=Kh (show T<wx.heap.size from aK.lt);clear eT cA aK U hX cC eG hQ hR oF hS nV oE pF Z bY a0 a1 bB nC nR;go_loopw [9] (λv wr=>∃E:Nat,1<=E/\E<=n+1/\v=.int .i64 E/\CRow (plc (Bd n D L (E - 1))) wr I (J*2)/\wx.grownBy wr (some I)) (λv _=>n+1 - (intOf v).toNat)
 case atStart=>exact⟨1,nL _,by omega,rfl,mE.1,Ag I (Below.refl _ _)⟩
 case round=>
  obtain⟨E,qI,qJ,rfl,nZ,oD⟩:=hrel;obtain⟨w3,rfl⟩:∃w3:World,w3=wr:=⟨_,rfl⟩
  have cI:=Kh nZ;have O:=Kh oD;clear nZ oD mE;have pI:gs≠I:=Nat.ne_of_lt oS.1;by_cases hlt:E<=n
  ·have qK:(E:Int)<=(n:Int):=by omega
   go_wp2_with fail
   refine(Ec E n w3 (by omega) (by omega) (by omega) (by omega)).mono ?_;rintro e w4 ⟨rfl,m1,rfl⟩;have oA:Int.gcd (E:Int) (n:Int)=Nat.gcd E n:=rfl;rw[oA];generalize hw4:w3.drewN m1=w4;have hO:Below w3.heap.size w3 w4:=hw4▸Aa (Below.refl _ _) m1;have gF:=Kh (cI.1.keep hO);have aX:=Kh (O.1.trans (Ag I hO))
   have mA:=Kh (show Bd n D L E=if pun n E then E4 n E (Pl.kroP D E) L L.length (Bd n D L (E - 1))else Bd n D L (E - 1)by
    obtain⟨l,rfl⟩:∃l,E=l+1:=⟨E - 1,by omega⟩
    rfl)
   have nD:=Kh (show pun n E=(Nat.gcd E n==1)from rfl);clear hw4 hO oA cI O;cases ho:(Nat.gcd E n==1)with
   | false=>
    have pH:(((Nat.gcd E n:Nat):Int) != 1)=true:=by
     simp only[beq_eq_false_iff_ne]at ho;simp;omega
    have HP:=Kh (show Bd n D L E=Bd n D L (E - 1)by rw[mA.1,nD.1,ho];rfl);clear ho;go_wp2;go_roundw
    case rel=>exact⟨E+1,by omega,by omega,by go_num,by rw[Nat.add_sub_cancel,HP.1];exact gF.1,aX.1⟩
    case measure=>simp[intOf];omega
   | true=>
    have pH:(((Nat.gcd E n:Nat):Int) != 1)=false:=by
     simp only[beq_iff_eq]at ho;rw[ho];rfl
    have HP:=Kh (show Bd n D L E=E4 n E (Pl.kroP D E) L L.length (Bd n D L (E - 1))by rw[mA.1,nD.1,ho];rfl);have x2:=aX.1.cell (oY.1.at_ 2 rfl) (λe=>by injection e with e;exact pI e);clear ho;go_wp2_with fail
    refine(Iq D E w4 (oW.1 w4 aX.1) (by omega) (by omega) (by omega) (by omega)).mono ?_;rintro e w5 ⟨rfl,rfl⟩;obtain⟨ch,nX⟩:∃ch,Pl.kroP D E=ch:=⟨_,rfl⟩
    rw[nX]at HP ⊢;clear x2 nX;go_wp2_with fail
    have mC:=Kh (show CRow (plc (E4 n E ch L 0 (Bd n D L (E - 1)))) w4 I (J*2)from gF.1);go_loopw [55] (λii w5=>∃j:Nat,j<=L.length/\ii=.int .i64 j/\CRow (plc (E4 n E ch L j (Bd n D L (E - 1)))) w5 I (J*2)/\wx.grownBy w5 (some I)) (λii _=>L.length - (intOf ii).toNat)
    case atStart=>exact⟨0,Nat.zero_le _,rfl,mC.1,aX.1⟩
    case round=>
     obtain⟨j,hj,rfl,eX,eY⟩:=hrel;obtain⟨w5,rfl⟩:∃w5:World,w5=wr:=⟨_,rfl⟩
     have gI:=Kh eX;have cM:=Kh eY;clear eX eY mC gF aX;by_cases hjl:j<L.length
     ·have qH:(j:Int)<(L.length:Int):=by omega
      obtain⟨a,ha⟩:∃a,L[j]?=some a:=⟨_,List.getElem?_eq_getElem hjl⟩
      have nW:a<n*n:=by
       have h:=List.mem_of_getElem? ha;rw[<-nB.1]at h;exact Gm h
      have oC:L.getD j 0=a:=by rw[List.getD_eq_getElem?_getD,ha];rfl
      have oR:=Kh oC;rcases nQ.1.but cM.1 (nL _)with⟨pB,_⟩ |⟨gL,pP,e,qE,hx⟩
      ·rw[pB]at hjl;simp at hjl
      cases e;obtain⟨p0,p1,p2⟩:=hx j a ha;have pD:a / n<n:=Nat.div_lt_of_lt_mul nW;have pE:a % n<n:=Nat.mod_lt _ h0;obtain⟨u,hu⟩:∃u,a / n=u:=⟨_,rfl⟩
      obtain⟨v,hv⟩:∃v,a % n=v:=⟨_,rfl⟩
      rw[hu]at p0 pD;rw[hv]at p1 pE;have HU:=Kh hu;have HV:=Kh hv;clear hu hv oC ha nW hx;go_wp2_with fail
      obtain⟨wb,eF⟩:∃wb,w5.alloc (.cells #[.int .i64 (u:Int),.int .i64 (v:Int),.int .i64 1] 213)=wb:=⟨_,rfl⟩
      have hP:Below w5.heap.size w5 wb:=eF▸(Below.refl _ _).alloc (nL _) _;have X:=eF▸Blk.new w5 213 #[.int .i64 (u:Int),.int .i64 (v:Int),.int .i64 1];rw[eF];obtain⟨gb,oB⟩:∃gb,w5.heap.size=gb:=⟨_,rfl⟩
      rw[oB]at X ⊢;have hI:T≠I:=nA.1;have V:gb≠I:=by have:=cM.1.size;have:=gN.1;have:=gI.1.stk.1;omega
      obtain⟨SU,dC⟩:∃x,E*u=x:=⟨_,rfl⟩
      obtain⟨SW,dE⟩:∃x,E*v=x:=⟨_,rfl⟩
      obtain⟨P1,cS⟩:∃x,SU % n=x:=⟨_,rfl⟩
      obtain⟨P2,cT⟩:∃x,SW % n=x:=⟨_,rfl⟩
      obtain⟨PN,cX⟩:∃x,P1*n=x:=⟨_,rfl⟩
      have q1:SU<=14400:=by rw[<-dC];exact Nat.mul_le_mul (by omega:E<=120) (by omega:u<=120)
      have q2:SW<=14400:=by rw[<-dE];exact Nat.mul_le_mul (by omega:E<=120) (by omega:v<=120)
      have q3:P1<n:=cS▸Nat.mod_lt _ h0;have q4:P2<n:=cT▸Nat.mod_lt _ h0;have q5:PN<=14400:=by rw[<-cX];exact Nat.mul_le_mul (by omega:P1<=120) (by omega:n<=120)
      have e1:(E:Int)*(u:Int)=(SU:Nat):=by rw[<-dC];push_cast;rfl
      have e2:(E:Int)*(v:Int)=(SW:Nat):=by rw[<-dE];push_cast;rfl
      have e3:(SU:Int).tmod (n:Int)=(P1:Nat):=by rw[Int.tmod_eq_emod_of_nonneg (by omega),<-cS];rfl
      have e4:(SW:Int).tmod (n:Int)=(P2:Nat):=by rw[Int.tmod_eq_emod_of_nonneg (by omega),<-cT];rfl
      have e5:(P1:Int)*(n:Int)=(PN:Nat):=by rw[<-cX];push_cast;rfl
      have hV:PN+P2=Az n E a:=by unfold Az;rw[HU.1,HV.1,dC,dE,cS,cT,cX]
      obtain⟨IX,hH⟩:∃x,PN+P2=x:=⟨_,rfl⟩
      have e6:(PN:Int)+(P2:Int)=(IX:Nat):=by omega
      have qB:IX<J:=by rw[<-hH,hV,<-gS.1];exact S7 h0 E a
      have pQ:(IX:Int)<(J:Int):=by omega
      have oT:=Kh (show IX=Az n E a by rw[<-hH,hV]);have aD:=gI.1.keep hP;have d0:=aD.val (IX*2) (by omega);have d1:=aD.free (IX*2) (by omega);have d2:=aD.val (IX*2+1) (by omega);have d3:=aD.free (IX*2+1) (by omega);have pG:(n:Int)≠0:=by omega
      have z1:((n:Int)==0)=false:=by simpa using pG
      have z2:n≠0:=by omega
      have i0:(0:Int)<=(IX:Int):=by omega
      have v1:IntKind.i64.wrap (SU:Int)=(SU:Nat):=IntWalk.i64_in _ (by omega);have v2:IntKind.i64.wrap (SW:Int)=(SW:Nat):=IntWalk.i64_in _ (by omega);have v3:IntKind.i64.wrap (PN:Int)=(PN:Nat):=IntWalk.i64_in _ (by omega);have v5:IntKind.i64.wrap (P1:Int)=(P1:Nat):=IntWalk.i64_in _ (by omega);have v6:IntKind.i64.wrap (P2:Int)=(P2:Nat):=IntWalk.i64_in _ (by omega);have v4:IntKind.i64.wrap (IX:Int)=(IX:Nat):=IntWalk.i64_in _ (by omega);have hU:=cM.1.trans (Ag I hP);have b0:=X.at_ 0 rfl;have b1:=X.at_ 1 rfl;have t3:=hU.cell (bA.1.at_ 3 rfl) (λe=>by injection e with e;exact hI e);have bY:wb.drew.cell? ⟨T,3,none⟩=some (.slice (some ⟨I,0,none⟩) J J)/\wb.drew.cell? ⟨gb,0,none⟩=some (.int .i64 (u:Int))/\wb.drew.cell? ⟨gb,1,none⟩=some (.int .i64 (v:Int)):=⟨t3,b0,b1⟩
      have oV:=Kh (show ∀(X:World) (i j:Nat) (v1 v2:Value),(X.cell? ⟨T,3,none⟩=some (.slice (some ⟨I,0,none⟩) J J)/\X.cell? ⟨gb,0,none⟩=some (.int .i64 (u:Int))/\X.cell? ⟨gb,1,none⟩=some (.int .i64 (v:Int)))->(((X.setCell ⟨I,i,none⟩ v1).setCell ⟨I,j,none⟩ v2).cell? ⟨T,3,none⟩=some (.slice (some ⟨I,0,none⟩) J J)/\((X.setCell ⟨I,i,none⟩ v1).setCell ⟨I,j,none⟩ v2).cell? ⟨gb,0,none⟩=some (.int .i64 (u:Int))/\((X.setCell ⟨I,i,none⟩ v1).setCell ⟨I,j,none⟩ v2).cell? ⟨gb,1,none⟩=some (.int .i64 (v:Int)))from λX i j v1 v2 h=>⟨by rw[World.cell?_setCell_far _ _ _ _ (by exact hI.symm),World.cell?_setCell_far _ _ _ _ (by exact hI.symm)];exact h.1,by rw[World.cell?_setCell_far _ _ _ _ (by exact V.symm),World.cell?_setCell_far _ _ _ _ (by exact V.symm)];exact h.2.1,by rw[World.cell?_setCell_far _ _ _ _ (by exact V.symm),World.cell?_setCell_far _ _ _ _ (by exact V.symm)];exact h.2.2⟩);have oP:=Kh aD;have oQ:=Kh hU;clear dC dE cS cT cX hV hH aD hU X eF hP b0 b1 t3 p0 p1 p2 oB;go_upto_region 17 with(fail)
      go_region_held3 (λw'=>w'.cell? ⟨T,3,none⟩=some (.slice (some ⟨I,0,none⟩) J J)/\w'.cell? ⟨gb,0,none⟩=some (.int .i64 (u:Int))/\w'.cell? ⟨gb,1,none⟩=some (.int .i64 (v:Int)))
       (first|with_reducible exact bY|exact oV.1 _ _ _ _ _ bY)
       (fail)
      all_goals go_wp2
      all_goals go_roundw
      all_goals first
       | exact⟨j+1,by omega,by go_num,by rw[E4,oR.1,<-oT.1];exact(oP.1.place (p:=IX) (j,ch)).keep (Below.refl _ _).drew,(oQ.1.trans ((Ar wb I _ _).trans (Ar _ I _ _))).trans (Ag I (Below.refl _ _).drew)⟩
       |(simp[intOf];omega)
     ·obtain rfl:L.length=j:=by omega
      go_wp2;go_roundw
      case rel=>exact⟨E+1,by omega,by omega,by go_num,by rw[Nat.add_sub_cancel,HP.1];exact gI.1,cM.1⟩
      case measure=>simp[intOf];omega
  ·obtain rfl:n+1=E:=by omega
   have qF:¬((n:Int)+1<=(n:Int)):=by omega
   have dY:T≠I:=nA.1;have oG:=O.1.size
   have oX:=Kh (show WorldAt w3 T w3.heap.size n wt L (Bd n D L n)from
    ⟨by have:=oU.1;omega,O.1.cell (bA.1.at_ 0 rfl) (λe=>by injection e with e;exact dY e),O.1.cell (bA.1.at_ 1 rfl) (λe=>by injection e with e;exact dY e),
     ⟨pl,cl,O.1.cell (bA.1.at_ 2 rfl) (λe=>by injection e with e;exact dY e),(nQ.1.but O.1 (nL _)).up (nM gN.1 oG)⟩,
     I,by rw[gS.1];exact O.1.cell (bA.1.at_ 3 rfl) (λe=>by injection e with e;exact dY e),cI.1.stk.1,λi hi=>cI.1.val i (by rw[<-gS.1];exact hi)⟩)
   have oN:=Kh (show Below w.heap.size w w3 from Aq (gA.1.trans (oO.1.mono gU.1)) O.1 (nM gU.1 gN.1) gU.1);clear oG;go_wp2
   (first|go_ret2|go_ret)
   exact⟨⟨T,rfl,oX.1⟩,oN.1⟩
theorem Oq (N k D:Int) (w:World) (M:Pl.check N k D≠0):
  Calls prog 91 #[.agg #[.int .i64 N,.int .i64 k,.int .i64 D]] w λe w'=>e=.returned (.tuple #[.pointer none,.int .i64 (Pl.check N k D)])/\Below w.heap.size w w':=by
 obtain⟨V,I⟩:∃V,Pl.check N k D=V:=⟨_,rfl⟩
 have U:=Kh I;rw[I]at M ⊢;clear I;go_enter func91,ntmps91
 go_wp2_with fail
 obtain⟨w0,O,h,E⟩:=bx1 w #[.int .i64 N,.int .i64 k,.int .i64 D] 23;rw[O];refine(Fo N k D w0).mono ?_;rintro e w1 ⟨rfl,J⟩;have Z:=Kh (E.trans (J.mono E.size));rw[U.1];have aD:(V != 0)=true:=by simpa using M
 clear O h E J;go_wp2
 (first|go_ret2|go_ret)
 exact⟨rfl,Z.1⟩
end
end Go.Proofs.YtenlbhlllgppmaaGreatDoor
