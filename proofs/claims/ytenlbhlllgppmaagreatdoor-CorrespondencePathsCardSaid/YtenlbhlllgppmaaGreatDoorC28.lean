/- The characters are multiplicative: a finite look, by the kernel. -/
import Derived.Test.YtenlbhlllgppmaaGreatDoorC27
namespace Go.Proofs.YtenlbhlllgppmaaGreatDoor
open Tryz
namespace Pl
open Tryz
def Pg (l:List Int) (v:Int):Nat:=l.foldr (λx n=>2*n+if x=v then 1 else 0) 0
def eU (d pos neg r s:Nat):Bool:=if Nat.testBit neg r==Nat.testBit neg s then Nat.testBit pos (r*s % d)else Nat.testBit neg (r*s % d)
def R0 (d:Nat):List Nat:=(List.range d).filter λr=>Nat.gcd r d==1
def mulCh (D:Int):Bool:=
 let d:=D.natAbs
 let t:=Fk D
 let pos:=Pg t 1
 let neg:=Pg t (-1)
 let us:=R0 d
 us.all λr=>(Nat.testBit pos r != Nat.testBit neg r)&&us.all λs=>eU d pos neg r s
def Ck (i:Nat):Bool:=(List.range 20).all λj=>let D:Int:=((20*i+j:Nat):Int) - 120;!fund D||mulCh D
theorem mG:Ck 0=true:=by decide +kernel
theorem mH:Ck 1=true:=by decide +kernel
theorem mI:Ck 2=true:=by decide +kernel
theorem mJ:Ck 3=true:=by decide +kernel
theorem mK:Ck 4=true:=by decide +kernel
theorem mL:Ck 5=true:=by decide +kernel
theorem mM:Ck 6=true:=by decide +kernel
theorem mN:Ck 7=true:=by decide +kernel
theorem mO:Ck 8=true:=by decide +kernel
theorem mP:Ck 9=true:=by decide +kernel
theorem kP:Ck 10=true:=by decide +kernel
theorem kQ:Ck 11=true:=by decide +kernel
theorem kR:Ck 12=true:=by decide +kernel
theorem Ri:∀i,i<13->Ck i=true
 | 0,_=>mG|1,_=>mH|2,_=>mI|3,_=>mJ|4,_=>mK|5,_=>mL|6,_=>mM|7,_=>mN|8,_=>mO|9,_=>mP|10,_=>kP|11,_=>kQ|12,_=>kR
 | n+13,h=>absurd h (by omega)
theorem gZ {D:Int} (J:-120<=D) (M:D<=120) (I:fund D=true):mulCh D=true:=by
 have h:=Ri ((D+120).toNat / 20) (by omega);unfold Ck at h;rw[List.all_eq_true]at h;have E:=h ((D+120).toNat % 20) (List.mem_range.2 (Nat.mod_lt _ (by omega)));rw[Nat.div_add_mod]at E;have e:(((D+120).toNat:Nat):Int) - 120=D:=by omega
 simp only[e,I]at E
 simpa using E
theorem Ph (v:Int):∀(l:List Int) (i:Nat),Nat.testBit (Pg l v) i=decide (l[i]?=some v)
 | [],i=>by simp[Pg]
 | x :: l,0=>by
  show Nat.testBit (2*Pg l v+if x=v then 1 else 0) 0=_;rw[Nat.testBit_zero];by_cases h:x=v
  ·simp[h]
  ·simp[h]
 | x :: l,i+1=>by
  show Nat.testBit (2*Pg l v+if x=v then 1 else 0) (i+1)=_;rw[Nat.testBit_succ,show(2*Pg l v+if x=v then 1 else 0) / 2=Pg l v by split <;> omega,Ph v l i];simp
theorem kro_mul {N:Nat} {D:Int} {a b c:Nat} (hN:0<N) (h0:-120<=D) (h1:D<=120) (hf:fund D=true) (hd:(N:Int) % D=0) (ha:0<a) (bB:a<=128) (hb:0<b) (bE:b<=128) (hc:0<c) (bY:c<=128) (ga:Nat.gcd a N=1) (gb:Nat.gcd b N=1) (gc:Nat.gcd c N=1) (h:a*b % N=c % N):
  kroP D c=kroP D a*kroP D b/\(kroP D a=1∨kroP D a=-1):=by
 have I:D.natAbs∣N:=by
  have:D∣(N:Int):=Int.dvd_of_emod_eq_zero hd;exact Int.natAbs_dvd_natAbs.2 this
 have aK:0<D.natAbs:=Nat.pos_of_dvd_of_pos I hN;have V:∀{x:Nat},Nat.gcd x N=1->Nat.gcd x D.natAbs=1:=λhx=>Nat.eq_one_of_dvd_one (hx▸Nat.gcd_dvd_gcd_of_dvd_right _ I)
 have O:=gC h0 h1 hf;have E:=gZ h0 h1 hf;unfold chk at O;simp only[Bool.and_eq_true,List.all_eq_true]at O
 have U:∀x:Nat,0<x->x<=128->Nat.gcd x N=1->(Fk D)[x % D.natAbs]?=some (kroP D x):=by
  intro x hx dC hg;have M:=O.2 x (List.mem_range.2 (by omega));simp only[V hg,Bool.or_eq_true,decide_eq_true_eq,bne_self_eq_false,Bool.false_eq_true,or_false,beq_iff_eq]at M;have hl:x % D.natAbs<(Fk D).length:=by unfold Fk;simpa using Nat.mod_lt x aK
  rcases M with M|M
  ·omega
  ·rw[List.getD_eq_getElem?_getD,List.getElem?_eq_getElem hl]at M
   rw[List.getElem?_eq_getElem hl,M];rfl
 have J:∀x:Nat,Nat.gcd x N=1->x % D.natAbs∈R0 D.natAbs:=λx hg=>by
  unfold R0;rw[List.mem_filter,List.mem_range];refine⟨Nat.mod_lt _ aK,?_⟩;rw[beq_iff_eq,<-Nat.gcd_rec,Nat.gcd_comm];exact V hg
 unfold mulCh at E;simp only[List.all_eq_true,Bool.and_eq_true]at E
 have bC:a % D.natAbs*(b % D.natAbs) % D.natAbs=c % D.natAbs:=by
  rw[<-Nat.mul_mod,<-Nat.mod_mod_of_dvd (a*b) I,h,Nat.mod_mod_of_dvd _ I]
 have Z:=(E _ (J a ga)).2 _ (J b gb);have u1:=(E _ (J a ga)).1;have u2:=(E _ (J b gb)).1;unfold eU at Z;rw[bC]at Z;simp only[Ph,U a ha bB ga,U b hb bE gb,U c hc bY gc,Option.some.injEq]at Z u1 u2
 have s1:kroP D a=1∨kroP D a=-1:=by
  by_cases e:kroP D a=1
  ·exact .inl e
  ·by_cases M:kroP D a=-1
   ·exact .inr M
   ·simp[e,M]at u1
 have s2:kroP D b=1∨kroP D b=-1:=by
  by_cases e:kroP D b=1
  ·exact .inl e
  ·by_cases M:kroP D b=-1
   ·exact .inr M
   ·simp[e,M]at u2
 refine⟨?_,s1⟩;rcases s1 with s1|s1 <;> rcases s2 with s2|s2 <;>(rw[s1,s2]at Z;simp at Z;rw[s1,s2,Z];rfl)
end Pl
end Go.Proofs.YtenlbhlllgppmaaGreatDoor
namespace Go.Proofs.YtenlbhlllgppmaaGreatDoor
open Tryz
open Eli
def Fh (a b:Int) (p:Nat->Rat):Nat->Rat:=λj=>(if 0<j then(a:Rat)*p (j - 1)else 0)+(b:Rat)*p j
theorem Cd (f:Nat->Nat->Rat) (n m:Nat):sumQ (λi=>sumQ (λl=>f i l) m) n=sumQ (λl=>sumQ (λi=>f i l) n) m:=by
 induction n with
 | zero=>exact(A7 (λ_ _=>rfl)).symm
 | succ n ih=>rw[sumQ,ih,<-As];exact Ac (λ_ _=>rfl)
theorem Ry (f:Nat->Rat) (n:Nat):sumQ f (n+1)=f 0+sumQ (λi=>f (i+1)) n:=by
 induction n with
 | zero=>show(0:Rat)+f 0=f 0+0;grind
 | succ n ih=>rw[sumQ,ih,sumQ];grind
theorem Yd (a b c d:Int) (p:Nat->Int):lin c d (lin a b p)=lin a b (lin c d p):=by
 funext j;unfold lin;by_cases h:0<j
 ·simp only[if_pos h]
  by_cases h1:0<j - 1
  ·simp only[if_pos h1];grind
  ·simp only[if_neg h1];grind
 ·simp only[if_neg h];grind
theorem Yn (a b c d:Int):∀k i,k<=i->mv (i+1) a b c d k=mv i a b c d k
 | 0,_,_=>rfl
 | k+1,i,h=>by rw[mv,mv,if_pos (by omega),if_pos (by omega),Yn a b c d k i (by omega)]
theorem eV (a b c d:Int):∀k i,i<=k->mv (i+1) a b c d (k+1)=lin a b (mv i a b c d k)
 | k,i,h=>by
  by_cases e:i=k
  ·subst e
   rw[mv,if_pos (by omega),Yn a b c d i i (nL _)]
  ·obtain⟨l,rfl⟩:∃l,k=l+1:=⟨k - 1,by omega⟩
   rw[mv,if_neg (by omega),eV a b c d l i (by omega),mv,if_neg (by omega),Yd]
theorem cZ {a b c d:Int} {k i:Nat} (h:i<=k):mv i a b c d (k+1)=lin c d (mv i a b c d k):=by
 rw[mv,if_neg (by omega)]
theorem E9 (a b:Int) (p:Nat->Int) (j:Nat):((lin a b p j:Int):Rat)=Fh a b (λi=>(p i:Rat)) j:=by
 unfold lin Fh;split <;> simp <;> grind
theorem Pd (a b:Int) (p:Nat->Rat) (f:Nat->Nat->Int) (n j:Nat):sumQ (λi=>p i*Fh a b (λl=>(f i l:Rat)) j) n=Fh a b (λl=>sumQ (λi=>p i*(f i l:Rat)) n) j:=by
 unfold Fh;by_cases h:0<j
 ·simp only[if_pos h]
  rw[<-Am,<-Am,<-As];exact Ac (λi _=>by grind)
 ·simp only[if_neg h]
  rw[<-Am,Rat.zero_add];exact Ac (λi _=>by grind)
theorem Mg (I E a b c d:Int) (p:Nat->Rat) (k j:Nat) (V:p (k+1)=0):
  subst (Fh I E p) (k+1) a b c d (k+2) j=Fh (I*a+E*c) (I*b+E*d) (subst p k a b c d (k+1)) j:=by
 have J:sumQ (λi=>(if 0<i then(I:Rat)*p (i - 1)else 0)*(mv i a b c d (k+1) j:Int)) (k+2)=(I:Rat)*Fh a b (subst p k a b c d (k+1)) j:=by
  rw[Ry];simp only[Nat.lt_irrefl,if_false];unfold subst;rw[<-Pd a b p (λi=>mv i a b c d k),<-Am,Rat.zero_mul,Rat.zero_add];refine Ac (λi U=>?_);rw[if_pos (by omega),eV a b c d k i (by omega),E9,Nat.add_sub_cancel];grind
 have M:sumQ (λi=>(E:Rat)*p i*(mv i a b c d (k+1) j:Int)) (k+2)=(E:Rat)*Fh c d (subst p k a b c d (k+1)) j:=by
  rw[sumQ,V];unfold subst;rw[<-Pd c d p (λi=>mv i a b c d k),<-Am];rw[show ∀x:Rat,x+(E:Rat)*0*((mv (k+1) a b c d (k+1) j:Int):Rat)=x from λx=>by grind];refine Ac (λi U=>?_);rw[cZ (by omega),E9];grind
 have O:subst (Fh I E p) (k+1) a b c d (k+2) j=(I:Rat)*Fh a b (subst p k a b c d (k+1)) j+(E:Rat)*Fh c d (subst p k a b c d (k+1)) j:=by
  rw[<-J,<-M,<-As];unfold subst;refine Ac (λi _=>?_);unfold Fh;grind
 rw[O];unfold Fh;split <;> simp <;> grind
theorem Zy (a b c d E I J M:Int) (i j:Nat):∀k,subst (λl=>(mv i a b c d k l:Rat)) k E I J M (k+1) j=(mv i (a*E+b*J) (a*I+b*M) (c*E+d*J) (c*I+d*M) k j:Rat):=by
 intro k;induction k generalizing j with
 | zero=>
  show(0:Rat)+((if(0:Nat)=0 then 1 else 0:Int):Rat)*((if j=0 then 1 else 0:Int):Rat)=((if j=0 then 1 else 0:Int):Rat)
  split <;> simp <;> grind
 | succ k ih=>
  have Z:(λl=>(mv i a b c d k l:Rat)) (k+1)=0:=by
   show((mv i a b c d k (k+1):Int):Rat)=0;rw[Jc i a b c d k (k+1) (by omega)];rfl
  have V:∀O U,(λl=>((lin O U (mv i a b c d k) l:Int):Rat))=Fh O U (λl=>(mv i a b c d k l:Rat)):=λO U=>funext (λl=>E9 O U _ l)
  by_cases h:k<i
  ·simp only[mv,if_pos h]
   rw[V,Mg a b E I J M _ k j Z,E9];unfold Fh;simp only[ih]
  ·simp only[mv,if_neg h]
   rw[V,Mg c d E I J M _ k j Z,E9];unfold Fh;simp only[ih]
theorem P3 (q:Nat->Rat) (a b c d E I J M:Int) (m j:Nat):
  subst (subst q m a b c d (m+1)) m E I J M (m+1) j=subst q m (a*E+b*J) (a*I+b*M) (c*E+d*J) (c*I+d*M) (m+1) j:=by
 have O:subst (subst q m a b c d (m+1)) m E I J M (m+1) j=sumQ (λl=>sumQ (λi=>q i*(mv i a b c d m l:Int)*(mv l E I J M m j:Int)) (m+1)) (m+1):=by
  unfold subst;refine Ac (λl _=>?_);rw[Rat.mul_comm,<-Am];exact Ac (λi _=>by grind)
 rw[O,<-Cd];unfold subst;refine Ac (λi _=>?_);rw[<-Zy a b c d E I J M i j m];unfold subst;rw[<-Am];exact Ac (λl _=>by grind)
theorem Ni {k x y:Int} (I:k≠0) (h:Int.gcd x y=1):low (k*x) (k*y)=if y<0∨(y=0/\x<0)then(-x,-y)else(x,y):=by
 have hg:Int.gcd (k*x) (k*y)=k.natAbs:=by rw[Int.gcd_mul_left,h,Nat.mul_one]
 have O:¬(x=0/\y=0):=by
  rintro⟨rfl,rfl⟩;simp at h
 unfold low;rw[hg];by_cases hp:0<k
 ·have e:((k.natAbs:Nat):Int)=k:=by omega
  rw[e,Int.mul_tdiv_cancel_left x I,Int.mul_tdiv_cancel_left y I];have J:k*y<0↔y<0:=⟨λh=>by rcases Int.lt_or_le y 0 with E|E;exact E;exact absurd (Int.mul_nonneg (Int.le_of_lt hp) E) (by omega),λh=>Int.mul_neg_of_pos_of_neg hp h⟩
  have E:k*x<0↔x<0:=⟨λh=>by rcases Int.lt_or_le x 0 with E|E;exact E;exact absurd (Int.mul_nonneg (Int.le_of_lt hp) E) (by omega),λh=>Int.mul_neg_of_pos_of_neg hp h⟩
  have M:k*y=0↔y=0:=⟨λh=>(Int.mul_eq_zero.1 h).resolve_left I,λh=>by rw[h,Int.mul_zero]⟩
  simp only[J,E,M]
 ·have e:((k.natAbs:Nat):Int)=-k:=by omega
  have U:(k*x).tdiv (-k)=-x:=by rw[Int.tdiv_neg,Int.mul_tdiv_cancel_left x I]
  have V:(k*y).tdiv (-k)=-y:=by rw[Int.tdiv_neg,Int.mul_tdiv_cancel_left y I]
  rw[e,U,V];have hn:k<0:=by omega
  have J:k*y<0↔0<y:=⟨λh=>by rcases Int.lt_or_le 0 y with E|E;exact E;exact absurd (Int.mul_nonneg_of_nonpos_of_nonpos (Int.le_of_lt hn) E) (by omega),λh=>Int.mul_neg_of_neg_of_pos hn h⟩
  have E:k*x<0↔0<x:=⟨λh=>by rcases Int.lt_or_le 0 x with E|E;exact E;exact absurd (Int.mul_nonneg_of_nonpos_of_nonpos (Int.le_of_lt hn) E) (by omega),λh=>Int.mul_neg_of_neg_of_pos hn h⟩
  have M:k*y=0↔y=0:=⟨λh=>(Int.mul_eq_zero.1 h).resolve_left I,λh=>by rw[h,Int.mul_zero]⟩
  simp only[J,E,M,Int.neg_neg];split <;> split <;> first|rfl |(exfalso;omega)
theorem Ef {p q:Int} (h:Int.gcd p q≠0):∃k x y:Int,k≠0/\Int.gcd x y=1/\p=k*x/\q=k*y/\low p q=(x,y)/\(0<=y/\(y=0->x=1))/\(x.natAbs<=p.natAbs/\y.natAbs<=q.natAbs):=by
 obtain⟨x,J⟩:((Int.gcd p q:Nat):Int)∣p:=Int.gcd_dvd_left ..;obtain⟨y,M⟩:((Int.gcd p q:Nat):Int)∣q:=Int.gcd_dvd_right ..;obtain⟨g,hg⟩:∃g,Int.gcd p q=g:=⟨_,rfl⟩
 rw[hg]at J M h;have U:(g:Int)≠0:=by omega
 have I:Int.gcd x y=1:=by
  have h2:Int.gcd p q=g*Int.gcd x y:=by rw[J,M,Int.gcd_mul_left];simp
  rw[hg]at h2;exact Nat.eq_of_mul_eq_mul_left (Nat.pos_of_ne_zero h) (by omega)
 have O:=Ni U I;rw[<-J,<-M]at O
 have aK:¬(x=0/\y=0):=by
  rintro⟨rfl,rfl⟩;simp at I
 have V:x.natAbs<=p.natAbs:=by rw[J,Int.natAbs_mul];exact Nat.le_mul_of_pos_left _ (by omega)
 have Z:y.natAbs<=q.natAbs:=by rw[M,Int.natAbs_mul];exact Nat.le_mul_of_pos_left _ (by omega)
 have E:y=0->x.natAbs=1:=λh=>by rw[h]at I;simpa using I
 by_cases hs:y<0∨(y=0/\x<0)
 ·rw[if_pos hs]at O
  refine⟨-g,-x,-y,by omega,by rw[Int.gcd_neg,Int.neg_gcd];exact I,by rw[J];grind,by rw[M];grind,O,⟨by omega,λh=>?_⟩,by omega,by omega⟩;have:=E (by omega);omega
 ·rw[if_neg hs]at O
  refine⟨g,x,y,U,I,J,M,O,⟨by omega,λh=>?_⟩,V,Z⟩;have:=E h;omega
theorem U6 {a b c d p q E I J M:Int} (h:Int.gcd (a*p+b*q) (c*p+d*q)≠0) (O:Int.gcd (E*(low (a*p+b*q) (c*p+d*q)).1+I*(low (a*p+b*q) (c*p+d*q)).2) (J*(low (a*p+b*q) (c*p+d*q)).1+M*(low (a*p+b*q) (c*p+d*q)).2)≠0):
  low (E*(low (a*p+b*q) (c*p+d*q)).1+I*(low (a*p+b*q) (c*p+d*q)).2) (J*(low (a*p+b*q) (c*p+d*q)).1+M*(low (a*p+b*q) (c*p+d*q)).2)=low ((E*a+I*c)*p+(E*b+I*d)*q) ((J*a+M*c)*p+(J*b+M*d)*q):=by
 obtain⟨k,x,y,hk,h1,U,V,e3,-⟩:=Ef h;rw[e3]at O ⊢;dsimp only at O ⊢;obtain⟨l,u,v,hl,g1,Z,f2,f3,-⟩:=Ef O
 have m1:(E*a+I*c)*p+(E*b+I*d)*q=k*l*u:=by
  have:(E*a+I*c)*p+(E*b+I*d)*q=E*(a*p+b*q)+I*(c*p+d*q):=by grind
  rw[this,U,V,Int.mul_assoc,<-Z];grind
 have m2:(J*a+M*c)*p+(J*b+M*d)*q=k*l*v:=by
  have:(J*a+M*c)*p+(J*b+M*d)*q=J*(a*p+b*q)+M*(c*p+d*q):=by grind
  rw[this,U,V,Int.mul_assoc,<-f2];grind
 rw[m1,m2,Ni (Int.mul_ne_zero hk hl) g1,Z,f2,Ni hl g1]
def H9 (n:Nat) (u v:Int):Nat:=(u % n).toNat*n+(v % n).toNat
theorem I9 {n:Nat} (hn:0<n) (u v:Int):H9 n u v / n=(u % n).toNat:=by
 have E:(v % n).toNat<n:=by have:=Int.emod_lt_of_pos v (show(0:Int)<n by omega);have:=Int.emod_nonneg v (show(n:Int)≠0 by omega);omega
 unfold H9;rw[Nat.mul_comm,Nat.mul_add_div hn,Nat.div_eq_of_lt E,Nat.add_zero]
theorem Ja {n:Nat} (hn:0<n) (u v:Int):H9 n u v % n=(v % n).toNat:=by
 have E:(v % n).toNat<n:=by have:=Int.emod_lt_of_pos v (show(0:Int)<n by omega);have:=Int.emod_nonneg v (show(n:Int)≠0 by omega);omega
 unfold H9;rw[Nat.mul_comm,Nat.mul_add_mod,Nat.mod_eq_of_lt E]
theorem gV {n:Nat} (hn:0<n) (u v:Int):H9 n u v<n*n:=by
 have E:=Int.emod_lt_of_pos u (show(0:Int)<n by omega);have I:=Int.emod_lt_of_pos v (show(0:Int)<n by omega);have J:=Int.emod_nonneg u (show(n:Int)≠0 by omega);have M:=Int.emod_nonneg v (show(n:Int)≠0 by omega);unfold H9
 calc (u % n).toNat*n+(v % n).toNat<(u % n).toNat*n+n:=by omega
  _=((u % n).toNat+1)*n:=by rw[Nat.add_mul,Nat.one_mul]
  _<=n*n:=Nat.mul_le_mul_right _ (by omega)
theorem Kc {n s:Nat} {u E:Int} (hn:0<n) (h:E % n=(s*u) % n):(E % n).toNat=s*(u % n).toNat % n:=by
 have I:=Int.emod_nonneg u (show(n:Int)≠0 by omega);have J:=Int.emod_nonneg E (show(n:Int)≠0 by omega)
 have M:((s*(u % n).toNat % n:Nat):Int)=E % n:=by
  push_cast
  rw[Int.toNat_of_nonneg I,h,Int.mul_emod,Int.emod_emod,<-Int.mul_emod]
 omega
theorem Uv {n s:Nat} {u v E I:Int} (hn:0<n) (J:E % n=(s*u) % n) (M:I % n=(s*v) % n):H9 n E I=Az n s (H9 n u v):=by
 unfold Az;rw[I9 hn,Ja hn,<-Kc hn J,<-Kc hn M];rfl
theorem Pr {n:Nat} (hn:0<n) {u v:Int}:E5 n (H9 n u v)=true↔∀g:Nat,(g:Int)∣u->(g:Int)∣v->g∣n->g=1:=by
 have O:=Int.emod_nonneg u (show(n:Int)≠0 by omega);have U:=Int.emod_nonneg v (show(n:Int)≠0 by omega)
 have E:∀{g:Nat} {x:Int},g∣n->0<=x % n->(g∣(x % n).toNat↔(g:Int)∣x):=λ{g x} hg h=>by
  rw[<-Int.natCast_dvd_natCast,Int.toNat_of_nonneg h];constructor
  ·intro M
   rw[<-Int.emod_add_mul_ediv x n];exact Int.dvd_add M (Int.dvd_trans (Int.natCast_dvd_natCast.2 hg) (Int.dvd_mul_right _ _))
  ·intro M
   rw[Int.emod_def];exact Int.dvd_sub M (Int.dvd_trans (Int.natCast_dvd_natCast.2 hg) (Int.dvd_mul_right _ _))
 unfold E5;rw[I9 hn,Ja hn,beq_iff_eq];constructor
 ·intro h g V Z J
  have:g∣Nat.gcd (Nat.gcd (u % n).toNat (v % n).toNat) n:=Nat.dvd_gcd (Nat.dvd_gcd ((E J O).2 V) ((E J U).2 Z)) J;rw[h]at this;exact Nat.dvd_one.1 this
 ·intro h
  have I:=Nat.gcd_dvd_right (Nat.gcd (u % n).toNat (v % n).toNat) n;exact h _ ((E I O).1 (Nat.dvd_trans (Nat.gcd_dvd_left _ _) (Nat.gcd_dvd_left _ _))) ((E I U).1 (Nat.dvd_trans (Nat.gcd_dvd_left _ _) (Nat.gcd_dvd_right _ _))) I
theorem Y9 {n k:Nat} (hn:0<n) (V:k<n*n) (h:E5 n k=true):∃j s,j<(pts n (n*n)).length/\1<=s/\s<=n/\pun n s=true/\Az n s ((pts n (n*n)).getD j 0)=k:=by
 have E:∀a s,a∈pts n (n*n)->1<=s->s<=n->pun n s=true->Az n s a=k->∃j s,j<(pts n (n*n)).length/\1<=s/\s<=n/\pun n s=true/\Az n s ((pts n (n*n)).getD j 0)=k:=λa s U I J M O=>by
  obtain⟨j,Z,e⟩:=List.getElem_of_mem U;exact⟨j,s,Z,I,J,M,by rw[List.getD_eq_getElem?_getD,List.getElem?_eq_getElem Z,e];exact O⟩
 cases hs:Ct n (pts n k) k with
 | true=>
  obtain⟨a,U,s,I,J,M,O⟩:=Ii.1 hs;exact E a s (Kq (Nat.le_of_lt V) U) I J M O
 | false=>exact E k 1 (Kq V (Tb h hs)) (by omega) hn (by simp[pun]) (Kp V)
section
variable {n wt:Nat} {D:Int} (x:Nat->Rat)
def cP (n wt:Nat) (x:Nat->Rat) (p:Nat×Int) (P:Nat->Rat):Rat:=sumQ (λi=>P i*(p.2:Rat)*x (i*(pts n (n*n)).length+p.1)) (wt+1)
theorem Mp {p:Nat×Int} (q:Nat->Rat) (f:Nat->Nat->Rat) (m:Nat):cP n wt x p (λj=>sumQ (λi=>q i*f i j) m)=sumQ (λi=>q i*cP n wt x p (f i)) m:=by
 have E:sumQ (λi=>q i*cP n wt x p (f i)) m=sumQ (λi=>sumQ (λj=>q i*f i j*(p.2:Rat)*x (j*(pts n (n*n)).length+p.1)) (wt+1)) m:=Ac (λi _=>by
  unfold cP;rw[<-Am];exact Ac (λj _=>by grind))
 rw[E,Cd];unfold cP;refine Ac (λj _=>?_);rw[show sumQ (λi=>q i*f i j) m*(p.2:Rat)*x (j*(pts n (n*n)).length+p.1)=((p.2:Rat)*x (j*(pts n (n*n)).length+p.1))*sumQ (λi=>q i*f i j) m by grind,<-Am];exact Ac (λi _=>by grind)
theorem Mo (j:Nat) (s t:Int) (P:Nat->Rat):cP n wt x (j,s*t) P=(s:Rat)*cP n wt x (j,t) P:=by
 unfold cP;rw[<-Am];exact Ac (λi _=>by push_cast;grind)
theorem Mh (g:Nat->Rat) (m:Nat):∀w,sumQ g (w*m)=sumQ (λi=>sumQ (λj=>g (i*m+j)) m) w
 | 0=>by rw[Nat.zero_mul];rfl
 | w+1=>by
  have h:∀b,sumQ g (w*m+b)=sumQ g (w*m)+sumQ (λj=>g (w*m+j)) b:=by
   intro b;induction b with
   | zero=>rw[Nat.add_zero];show _=_+(0:Rat);grind
   | succ b ih=>rw[<-Nat.add_assoc,sumQ,ih,sumQ];grind
  rw[Nat.succ_mul,h m,sumQ,Mh g m w]
theorem Jd {i j:Nat} {a b c d:Int} {p:Nat×Int} (O:Ao n D (((pts n (n*n)).getD j 0 / n:Nat)*a+((pts n (n*n)).getD j 0 % n:Nat)*c) (((pts n (n*n)).getD j 0 / n:Nat)*b+((pts n (n*n)).getD j 0 % n:Nat)*d)=p) (M:p.2≠0->p.1<(pts n (n*n)).length):
  sumQ (λk=>(L8 n wt (pts n (n*n)) (Bd n D (pts n (n*n)) n) i j (a,b,c,d) k:Rat)*x k) ((wt+1)*(pts n (n*n)).length)=cP n wt x p (λl=>(mv i a b c d wt l:Rat)):=by
 have I:∀k,L8 n wt (pts n (n*n)) (Bd n D (pts n (n*n)) n) i j (a,b,c,d) k=if p.2=0 then 0 else if k % (pts n (n*n)).length=p.1/\k / (pts n (n*n)).length<=wt then p.2*mv i a b c d wt (k / (pts n (n*n)).length)else 0:=by
  intro k;unfold Ao at O;unfold L8;simp only[U9];rw[O]
 rw[Mh];unfold cP;refine Ac (λl V=>?_);by_cases h0:p.2=0
 ·rw[h0]
  rw[A7 (λk _=>by rw[I,if_pos h0];grind)];grind
 ·have hlt:=M h0
  have E:0<(pts n (n*n)).length:=by omega
  rw[A6 hlt]
  ·rw[I,if_neg h0,if_pos]
   ·rw[Nat.mul_comm l,Nat.mul_add_div E,Nat.div_eq_of_lt hlt,Nat.add_zero]
    push_cast
    grind
   ·rw[Nat.mul_comm l,Nat.mul_add_mod,Nat.mod_eq_of_lt hlt,Nat.mul_add_div E,Nat.div_eq_of_lt hlt]
    exact⟨rfl,by omega⟩
  ·intro k U J
   rw[I,if_neg h0,if_neg]
   ·grind
   ·rw[Nat.mul_comm l,Nat.mul_add_mod,Nat.mod_eq_of_lt U]
    exact λh=>J h.1
end
theorem F2 {n:Nat} {u v a b c d:Int} (hn:0<n) (M:E5 n (H9 n u v)=true) (J:a*d - b*c=1):E5 n (H9 n (u*a+v*c) (u*b+v*d))=true:=by
 rw[Pr hn]at M ⊢;intro g E I O;refine M g ?_ ?_ O
 ·have e:u=d*(u*a+v*c) - c*(u*b+v*d):=by
   have:d*(u*a+v*c) - c*(u*b+v*d)=u*(a*d - b*c):=by grind
   rw[this,J,Int.mul_one]
  rw[e];exact Int.dvd_sub (Int.dvd_trans E (Int.dvd_mul_left _ _)) (Int.dvd_trans I (Int.dvd_mul_left _ _))
 ·have e:v=a*(u*b+v*d) - b*(u*a+v*c):=by
   have:a*(u*b+v*d) - b*(u*a+v*c)=v*(a*d - b*c):=by grind
   rw[this,J,Int.mul_one]
  rw[e];exact Int.dvd_sub (Int.dvd_trans I (Int.dvd_mul_left _ _)) (Int.dvd_trans E (Int.dvd_mul_left _ _))
theorem Zc {n:Nat} {u v:Int} (hn:0<n) (h:Int.gcd u v=1):E5 n (H9 n u v)=true:=by
 rw[Pr hn];intro g I J _;have E:g∣Int.gcd u v:=Int.dvd_gcd I J;rw[h]at E;exact Nat.dvd_one.1 E
theorem He {n:Nat} {D u v:Int} (hn:0<n) (U:E5 n (H9 n u v)=true):∃j s,j<(pts n (n*n)).length/\1<=s/\s<=n/\pun n s=true/\Az n s ((pts n (n*n)).getD j 0)=H9 n u v/\Ao n D u v=(j,Pl.kroP D s):=by
 obtain⟨j,s,I,J,E,M,O⟩:=Y9 hn (gV hn u v) U;exact⟨j,s,I,J,E,M,O,Ig hn I J E M O n E (nL _)⟩
theorem Me {n wt s:Nat} {D u v E I:Int} (J:Pl.check n ((wt:Int)+2) D=0) (hp:E5 n (H9 n u v)=true) (h1:1<=s) (h2:s<=n) (O:pun n s=true) (hu:E % n=(s*u) % n) (hv:I % n=(s*v) % n):
  Ao n D E I=((Ao n D u v).1,Pl.kroP D s*(Ao n D u v).2):=by
 obtain⟨⟨a1,a2⟩,_,⟨U,V⟩,Z,h⟩:=Pl.check_ok J;have hn:0<n:=by omega
 obtain⟨j,t,b1,b2,b3,M,b5,b6⟩:=He (D:=D) hn hp;obtain⟨r,c1,c2,c3,c4⟩:=Ej hn (Jh O M);have e:Az n r ((pts n (n*n)).getD j 0)=H9 n E I:=by rw[Uv hn hu hv,<-b5,F1 hn,Eu c4]
 have hk:=Pl.kro_mul (N:=n) (D:=D) (a:=s) (b:=t) (c:=r) hn U V Z h (by omega) (by omega) (by omega) (by omega) (by omega) (by omega) (by simpa [pun] using O) (by simpa [pun] using M) (by simpa [pun] using c3) c4.symm;have h6:Ao n D E I=(j,Pl.kroP D r):=Ig hn b1 c1 c2 c3 e n c2 (nL _);rw[h6,b6,hk.1]
theorem Gl {n wt:Nat} {D u v:Int} (I:Pl.check n ((wt:Int)+2) D=0) (hp:E5 n (H9 n u v)=true):(Ao n D u v).2≠0/\(Ao n D u v).1<(pts n (n*n)).length:=by
 obtain⟨⟨a1,a2⟩,_,⟨J,M⟩,O,U⟩:=Pl.check_ok I;have hn:0<n:=by omega
 obtain⟨j,t,V,b2,b3,E,b5,Z⟩:=He (D:=D) hn hp;obtain⟨r,c1,c2,c3,c4⟩:=Ej hn (Jh E E);have hk:=Pl.kro_mul (N:=n) (D:=D) (a:=t) (b:=t) (c:=r) hn J M O U (by omega) (by omega) (by omega) (by omega) (by omega) (by omega) (by simpa [pun] using E) (by simpa [pun] using E) (by simpa [pun] using c3) c4.symm;rw[Z];exact⟨by rcases hk.2 with h|h <;>(dsimp only;rw[h];decide),V⟩
def RelZ (n wt:Nat) (D:Int) (x:Nat->Rat):Prop:=∀r,r<2*((wt+1)*(pts n (n*n)).length)->sumQ (λk=>(Kt n wt D r k:Rat)*x k) ((wt+1)*(pts n (n*n)).length)=0
theorem Jf {n wt:Nat} {x:Nat->Rat} {r:Nat} (hr:r<(wt+1)*(pts n (n*n)).length):sumQ (λk=>((if k=r then 1 else 0:Int):Rat)*x k) ((wt+1)*(pts n (n*n)).length)=x r:=by
 rw[A6 hr]
 ·rw[if_pos rfl];push_cast;grind
 ·intro i _ h;rw[if_neg h];push_cast;grind
theorem Nq {n j:Nat} (hn:0<n) (V:j<(pts n (n*n)).length):H9 n ((pts n (n*n)).getD j 0 / n:Nat) ((pts n (n*n)).getD j 0 % n:Nat)=(pts n (n*n)).getD j 0/\E5 n (H9 n ((pts n (n*n)).getD j 0 / n:Nat) ((pts n (n*n)).getD j 0 % n:Nat))=true:=by
 have I:=Bl V;have hlt:=Gm I
 have e:H9 n ((pts n (n*n)).getD j 0 / n:Nat) ((pts n (n*n)).getD j 0 % n:Nat)=(pts n (n*n)).getD j 0:=by
  have J:(pts n (n*n)).getD j 0 / n<n:=Nat.div_lt_of_lt_mul hlt;have M:(pts n (n*n)).getD j 0 % n<n:=Nat.mod_lt _ hn;have E:∀z:Nat,z<n->(((z:Nat):Int) % n).toNat=z:=λz Z=>by rw[Int.emod_eq_of_lt (by omega) (by omega)];omega
  have O:=E _ J;have U:=E _ M;unfold H9;rw[O,U,Nat.mul_comm,Nat.div_add_mod]
 exact⟨e,by rw[e];exact(Ij I).1⟩
theorem Rw {P:Nat->Rat} {wt:Nat} {a b c d:Int}:(λl=>sumQ (λi=>P i*(mv i a b c d wt l:Rat)) (wt+1))=subst P wt a b c d (wt+1):=rfl
theorem eB {n wt:Nat} {D:Int} {x:Nat->Rat} (I:Pl.check n ((wt:Int)+2) D=0) (Z:RelZ n wt D x) {j:Nat} (J:j<(pts n (n*n)).length) (P:Nat->Rat):
  cP n wt x (j,1) P+cP n wt x (Ao n D (((pts n (n*n)).getD j 0 / n:Nat)*0+((pts n (n*n)).getD j 0 % n:Nat)*1) (((pts n (n*n)).getD j 0 / n:Nat)*(-1)+((pts n (n*n)).getD j 0 % n:Nat)*0)) (subst P wt 0 (-1) 1 0 (wt+1))=0:=by
 obtain⟨⟨a1,a2⟩,_,⟨a3,a4⟩,a5,a6⟩:=Pl.check_ok I;have hn:0<n:=by omega
 have M:=(Nq hn J).2;have U:=Gl I (F2 (a:=0) (b:=-1) (c:=1) (d:=0) hn M (by decide))
 have E:∀i,i<wt+1->x (i*(pts n (n*n)).length+j)+cP n wt x (Ao n D (((pts n (n*n)).getD j 0 / n:Nat)*0+((pts n (n*n)).getD j 0 % n:Nat)*1) (((pts n (n*n)).getD j 0 / n:Nat)*(-1)+((pts n (n*n)).getD j 0 % n:Nat)*0)) (λl=>(mv i 0 (-1) 1 0 wt l:Rat))=0:=by
  intro i O
  have hlt:i*(pts n (n*n)).length+j<(wt+1)*(pts n (n*n)).length:=by
   have V:=Nat.mul_le_mul_right (pts n (n*n)).length (show i+1<=wt+1 by omega);rw[Nat.succ_mul]at V;omega
  have h:=Z (i*(pts n (n*n)).length+j) (by omega);have hs:=Jd (wt:=wt) (D:=D) x (i:=i) (j:=j) (a:=0) (b:=-1) (c:=1) (d:=0) rfl (λ_=>U.2);rw[<-hs,<-Jf (x:=x) hlt,<-As,<-h];refine Ac (λk _=>?_);unfold Kt Ks;rw[if_pos hlt,Nat.mul_comm i,Nat.mul_add_div (by omega),Nat.div_eq_of_lt J,Nat.add_zero,Nat.mul_add_mod,Nat.mod_eq_of_lt J];unfold gTurn
  push_cast
  grind
 rw[<-Rw,Mp];unfold cP at E ⊢;rw[<-As];refine A7 (λi O=>?_);have h:=E i O;dsimp only;generalize sumQ _ (wt+1)=z at h ⊢
 push_cast
 grind
theorem Z2 {n wt:Nat} {D:Int} {x:Nat->Rat} (I:Pl.check n ((wt:Int)+2) D=0) (hR:RelZ n wt D x) {j:Nat} (M:j<(pts n (n*n)).length) (P:Nat->Rat):
  cP n wt x (j,1) P+cP n wt x (Ao n D (((pts n (n*n)).getD j 0 / n:Nat)*0+((pts n (n*n)).getD j 0 % n:Nat)*1) (((pts n (n*n)).getD j 0 / n:Nat)*(-1)+((pts n (n*n)).getD j 0 % n:Nat)*(-1))) (subst P wt 0 (-1) 1 (-1) (wt+1))
   + cP n wt x (Ao n D (((pts n (n*n)).getD j 0 / n:Nat)*(-1)+((pts n (n*n)).getD j 0 % n:Nat)*(-1)) (((pts n (n*n)).getD j 0 / n:Nat)*1+((pts n (n*n)).getD j 0 % n:Nat)*0)) (subst P wt (-1) 1 (-1) 0 (wt+1))=0:=by
 obtain⟨⟨a1,a2⟩,_,⟨a3,a4⟩,a5,a6⟩:=Pl.check_ok I;have hn:0<n:=by omega
 have J:=(Nq hn M).2;have V:=Gl I (F2 (a:=0) (b:=-1) (c:=1) (d:=-1) hn J (by decide));have Z:=Gl I (F2 (a:=-1) (b:=1) (c:=-1) (d:=0) hn J (by decide))
 have E:∀i,i<wt+1->x (i*(pts n (n*n)).length+j)+cP n wt x (Ao n D (((pts n (n*n)).getD j 0 / n:Nat)*0+((pts n (n*n)).getD j 0 % n:Nat)*1) (((pts n (n*n)).getD j 0 / n:Nat)*(-1)+((pts n (n*n)).getD j 0 % n:Nat)*(-1))) (λl=>(mv i 0 (-1) 1 (-1) wt l:Rat))
   + cP n wt x (Ao n D (((pts n (n*n)).getD j 0 / n:Nat)*(-1)+((pts n (n*n)).getD j 0 % n:Nat)*(-1)) (((pts n (n*n)).getD j 0 / n:Nat)*1+((pts n (n*n)).getD j 0 % n:Nat)*0)) (λl=>(mv i (-1) 1 (-1) 0 wt l:Rat))=0:=by
  intro i U
  have hlt:i*(pts n (n*n)).length+j<(wt+1)*(pts n (n*n)).length:=by
   have h7:=Nat.mul_le_mul_right (pts n (n*n)).length (show i+1<=wt+1 by omega);rw[Nat.succ_mul]at h7;omega
  have h:=hR ((wt+1)*(pts n (n*n)).length+(i*(pts n (n*n)).length+j)) (by omega);have hs:=Jd (wt:=wt) (D:=D) x (i:=i) (j:=j) (a:=0) (b:=-1) (c:=1) (d:=-1) rfl (λ_=>V.2);have O:=Jd (wt:=wt) (D:=D) x (i:=i) (j:=j) (a:=-1) (b:=1) (c:=-1) (d:=0) rfl (λ_=>Z.2);rw[<-hs,<-O,<-Jf (x:=x) hlt,<-As,<-As,<-h];refine Ac (λk _=>?_);unfold Kt Ks;rw[if_neg (show ¬((wt+1)*(pts n (n*n)).length+(i*(pts n (n*n)).length+j)<(wt+1)*(pts n (n*n)).length)by omega),Nat.add_sub_cancel_left,Nat.mul_comm i,Nat.mul_add_div (by omega),Nat.div_eq_of_lt M,Nat.add_zero,Nat.mul_add_mod,Nat.mod_eq_of_lt M];unfold gThird gTwice
  push_cast
  grind
 rw[<-Rw,<-Rw,Mp,Mp];unfold cP at E ⊢;rw[<-As,<-As];refine A7 (λi U=>?_);have h:=E i U;dsimp only;generalize sumQ _ (wt+1)=z at h ⊢;generalize sumQ _ (wt+1)=z2 at h ⊢
 push_cast
 grind
theorem Md {n wt:Nat} {D u v:Int} (I:Pl.check n ((wt:Int)+2) D=0) (hp:E5 n (H9 n u v)=true):∃(j:Nat) (e:Int),j<(pts n (n*n)).length/\Ao n D u v=(j,e*1)/\∀a b c d:Int,a*d - b*c=1 ->
  Ao n D (u*a+v*c) (u*b+v*d)=((Ao n D (((pts n (n*n)).getD j 0 / n:Nat)*a+((pts n (n*n)).getD j 0 % n:Nat)*c) (((pts n (n*n)).getD j 0 / n:Nat)*b+((pts n (n*n)).getD j 0 % n:Nat)*d)).1,e*(Ao n D (((pts n (n*n)).getD j 0 / n:Nat)*a+((pts n (n*n)).getD j 0 % n:Nat)*c) (((pts n (n*n)).getD j 0 / n:Nat)*b+((pts n (n*n)).getD j 0 % n:Nat)*d)).2):=by
 obtain⟨⟨a1,a2⟩,_,⟨a3,a4⟩,a5,a6⟩:=Pl.check_ok I;have hn:0<n:=by omega
 obtain⟨j,s,O,V,Z,b4,U,b6⟩:=He (D:=D) hn hp;have M:=Nq hn O
 have hu:u % n=(s*((pts n (n*n)).getD j 0 / n:Nat)) % n:=by
  have h:Az n s ((pts n (n*n)).getD j 0) / n=H9 n u v / n:=by rw[U]
  rw[Dd hn,I9 hn]at h;have h3:=Int.emod_nonneg u (show(n:Int)≠0 by omega);have J:((s*((pts n (n*n)).getD j 0 / n) % n:Nat):Int)=u % n:=by omega
  rw[<-J];push_cast;rfl
 have hv:v % n=(s*((pts n (n*n)).getD j 0 % n:Nat)) % n:=by
  have h:Az n s ((pts n (n*n)).getD j 0) % n=H9 n u v % n:=by rw[U]
  rw[De,Ja hn]at h;have h3:=Int.emod_nonneg v (show(n:Int)≠0 by omega);have J:((s*((pts n (n*n)).getD j 0 % n) % n:Nat):Int)=v % n:=by omega
  rw[<-J];push_cast;rfl
 have E:∀a c:Int,(u*a+v*c) % n=(s*(((pts n (n*n)).getD j 0 / n:Nat)*a+((pts n (n*n)).getD j 0 % n:Nat)*c)) % n:=λa c=>by
  rw[Int.mul_add,<-Int.mul_assoc,<-Int.mul_assoc,Int.add_emod,Int.mul_emod u,Int.mul_emod v,hu,hv,<-Int.mul_emod,<-Int.mul_emod,<-Int.add_emod]
 refine⟨j,Pl.kroP D s,O,by rw[Int.mul_one];exact b6,λa b c d hd=>?_⟩;exact Me I (F2 hn M.2 hd) V Z b4 (E a c) (E b d)
theorem Gr {n wt:Nat} {x:Nat->Rat} {e:Int} (p:Nat×Int) (P:Nat->Rat):cP n wt x (p.1,e*p.2) P=(e:Rat)*cP n wt x p P:=Mo x p.1 e p.2 P
theorem Zi {n wt:Nat} {D:Int} {x:Nat->Rat} (E:Pl.check n ((wt:Int)+2) D=0) (O:RelZ n wt D x) {u v:Int} (V:E5 n (H9 n u v)=true) (P:Nat->Rat):
  cP n wt x (Ao n D u v) P+cP n wt x (Ao n D v (-u)) (subst P wt 0 (-1) 1 0 (wt+1))=0:=by
 obtain⟨j,e,U,J,M⟩:=Md E V;have I:=M 0 (-1) 1 0 (by decide);rw[show u*0+v*1=v by omega,show u*(-1)+v*0=-u by omega]at I;rw[J,I,Gr,Mo,<-Rat.mul_add,eB E O U P,Rat.mul_zero]
theorem Vi {n wt:Nat} {D:Int} {x:Nat->Rat} (E:Pl.check n ((wt:Int)+2) D=0) (U:RelZ n wt D x) {u v:Int} (Z:E5 n (H9 n u v)=true) (P:Nat->Rat):
  cP n wt x (Ao n D u v) P+cP n wt x (Ao n D v (-u - v)) (subst P wt 0 (-1) 1 (-1) (wt+1))+cP n wt x (Ao n D (-u - v) u) (subst P wt (-1) 1 (-1) 0 (wt+1))=0:=by
 obtain⟨j,e,V,O,I⟩:=Md E Z;have J:=I 0 (-1) 1 (-1) (by decide);have M:=I (-1) 1 (-1) 0 (by decide);rw[show u*0+v*1=v by omega,show u*(-1)+v*(-1)=-u - v by omega]at J;rw[show u*(-1)+v*(-1)=-u - v by omega,show u*1+v*0=u by omega]at M;rw[O,J,M,Gr,Gr,Mo,<-Rat.mul_add,<-Rat.mul_add,Z2 E U V P,Rat.mul_zero]
def Nb (x y:Int×Int):Prop:=y.1*x.2 - x.1*y.2=1∨y.1*x.2 - x.1*y.2=-1
theorem Nb.symm {x y:Int×Int} (h:Nb x y):Nb y x:=by unfold Nb at *;omega
def Gd (x:Int×Int):Prop:=0<=x.2/\(x.2=0->x.1=1)
structure Steps (st:Int×Int->Int×Int->Rat):Prop where
 anti:∀x y,Nb x y->st x y+st y x=0
 tri:∀x y,Nb x y->st x y+st y (x.1+y.1,x.2+y.2)+st (x.1+y.1,x.2+y.2) x=0
noncomputable def par (x:Int×Int):Int×Int:=by
 classical
 exact if h:∃y:Int×Int,y.1*x.2 - x.1*y.2=1/\0<=y.2/\y.2<x.2 then h.choose else(1,0)
theorem Rj {x y z:Int×Int} (I:y.1*x.2 - x.1*y.2=1) (h2:0<=y.2) (h3:y.2<x.2) (U:z.1*x.2 - x.1*z.2=1) (V:0<=z.2) (Z:z.2<x.2):y=z:=by
 have e:y.2 - z.2=x.2*(y.1*(y.2 - z.2) - (y.1 - z.1)*y.2):=by
  have h:(y.1 - z.1)*x.2=x.1*(y.2 - z.2):=by grind
  calc y.2 - z.2=(y.1*x.2 - x.1*y.2)*(y.2 - z.2):=by rw[I,Int.one_mul]
   _=x.2*(y.1*(y.2 - z.2)) - (x.1*(y.2 - z.2))*y.2:=by grind
   _=x.2*(y.1*(y.2 - z.2) - (y.1 - z.1)*y.2):=by rw[<-h];grind
 have h0:y.2 - z.2=0:=by
  obtain⟨t,O⟩:∃t,y.1*(y.2 - z.2) - (y.1 - z.1)*y.2=t:=⟨_,rfl⟩
  rw[O]at e;rcases Int.lt_trichotomy t 0 with h|h|h
  ·have:=Int.mul_le_mul_of_nonneg_left (show t<=-1 by omega) (show 0<=x.2 by omega)
   omega
  ·rw[e,h,Int.mul_zero]
  ·have:=Int.mul_le_mul_of_nonneg_left (show 1<=t by omega) (show 0<=x.2 by omega)
   omega
 have E:y.2=z.2:=by omega
 have J:(y.1 - z.1)*x.2=0:=by rw[E]at I;grind
 have M:y.1=z.1:=by
  rcases Int.mul_eq_zero.1 J with h|h <;> omega
 exact Prod.ext M E
theorem iJ {x y:Int×Int} (I:y.1*x.2 - x.1*y.2=1) (J:0<=y.2) (M:y.2<x.2):par x=y:=by
 have E:∃y:Int×Int,y.1*x.2 - x.1*y.2=1/\0<=y.2/\y.2<x.2:=⟨y,I,J,M⟩
 unfold par;rw[dif_pos E];have h:=E.choose_spec;exact Rj h.1 h.2.1 h.2.2 I J M
noncomputable def pot (st:Int×Int->Int×Int->Rat):Nat->Int×Int->Rat
 | 0,_=>0
 | k+1,x=>if 0<x.2/\(par x).2<x.2 then pot st k (par x)+st (par x) x else 0
noncomputable def Pot (st:Int×Int->Int×Int->Rat) (x:Int×Int):Rat:=pot st x.2.toNat x
theorem Za (st:Int×Int->Int×Int->Rat):∀(k:Nat) (x:Int×Int),x.2.toNat<=k->pot st k x=Pot st x:=by
 intro k;induction k using Nat.strongRecOn with
 | _ k ih=>
  intro x M;unfold Pot;rcases Nat.eq_zero_or_pos k with I|I
  ·rw[I,show x.2.toNat=0 by omega]
  ·obtain⟨m,rfl⟩:∃m,k=m+1:=⟨k - 1,by omega⟩
   rcases Nat.eq_zero_or_pos x.2.toNat with E|E
   ·have e:pot st (m+1) x=0:=by rw[pot,if_neg (by omega)]
    rw[E,e];rfl
   ·obtain⟨l,J⟩:∃l,x.2.toNat=l+1:=⟨x.2.toNat - 1,by omega⟩
    rw[J,pot,pot];by_cases h:0<x.2/\(par x).2<x.2
    ·rw[if_pos h,if_pos h,ih m (by omega) (par x) (by omega),ih l (by omega) (par x) (by omega)]
    ·rw[if_neg h,if_neg h]
theorem Ch {st:Int×Int->Int×Int->Rat} {x y:Int×Int} (I:y.1*x.2 - x.1*y.2=1) (J:0<=y.2) (E:y.2<x.2):Pot st x=Pot st y+st y x:=by
 have O:=iJ I J E;obtain⟨l,M⟩:∃l,x.2.toNat=l+1:=⟨x.2.toNat - 1,by omega⟩
 unfold Pot;rw[M,pot,O,if_pos ⟨by omega,E⟩,Za st l y (by omega)];rfl
theorem Steps.diff {st:Int×Int->Int×Int->Rat} (h:Steps st):∀(N:Nat) (x y:Int×Int),Gd x->Gd y->Nb x y->(x.2+y.2).toNat<=N->st x y=Pot st y - Pot st x:=by
 intro N;induction N with
 | zero=>
  intro x y M U hn hN;exfalso;have e1:x.2=0:=by have:=M.1;have:=U.1;omega
  have e2:y.2=0:=by have:=M.1;have:=U.1;omega
  unfold Nb at hn;rw[e1,e2]at hn;simp at hn
 | succ N ih=>
  have aX:∀x y:Int×Int,Gd x->Gd y->Nb x y->(x.2+y.2).toNat<=N+1->x.2<=y.2->st x y=Pot st y - Pot st x:=by
   intro x y M U hn hN J;have bY:=M.1;rcases Int.lt_or_eq_of_le J with hlt|bE
   ·rcases hn with hd|hd
    ·
     have eG:x.2≠0:=λe=>by
      have I:=M.2 e;rw[e,I]at hd;omega
     obtain⟨z,hz⟩:∃z:Int×Int,z=(y.1 - x.1,y.2 - x.2):=⟨_,rfl⟩
     have z1:z.1=y.1 - x.1:=by rw[hz]
     have z2:z.2=y.2 - x.2:=by rw[hz]
     have cA:z.1*y.2 - y.1*z.2=1:=by rw[z1,z2];grind
     have hP:=Ch (st:=st) cA (by omega) (by omega);have aN:Nb z x:=.inr (by rw[z1,z2];grind);have hs:(z.1+x.1,z.2+x.2)=y:=Prod.ext (by show z.1+x.1=y.1;omega) (by show z.2+x.2=y.2;omega);have V:=h.tri z x aN;rw[hs]at V;have hA:=h.anti z y (.inr (by grind));have hI:=ih z x ⟨by omega,λe=>by omega⟩ M aN (by omega);grind
    ·
     have hP:=Ch (st:=st) (x:=y) (y:=x) (by omega) bY hlt;grind
   ·
    have hq:y.2=1:=by
     have I:y.2*(y.1 - x.1)=1∨y.2*(y.1 - x.1)=-1:=by
      unfold Nb at hn;rw[bE]at hn;rcases hn with hn|hn
      ·left;rw[<-hn];grind
      ·right;rw[<-hn];grind
     have h2:y.2∣1:=by
      rcases I with I|I
      ·exact⟨_,I.symm⟩
      ·exact⟨-(y.1 - x.1),by rw[Int.mul_neg,I];rfl⟩
     have h3:=Int.le_of_dvd (by decide) h2;have h4:y.2≠0:=λe=>by rw[e]at I;simp at I
     omega
    have O:x.2=1:=by omega
    obtain⟨E,ho⟩:∃E:Int×Int,E=(1,0):=⟨_,rfl⟩
    have o1:E.1=1:=by rw[ho]
    have o2:E.2=0:=by rw[ho]
    have dY:=Ch (st:=st) (x:=x) (y:=E) (by rw[o1,o2,O];omega) (by omega) (by omega);have eF:=Ch (st:=st) (x:=y) (y:=E) (by rw[o1,o2,hq];omega) (by omega) (by omega);have dE:Pot st E=0:=by unfold Pot;rw[o2];rfl
    have Z:Nb E x:=.inr (by rw[o1,o2,O];omega);have aD:Nb E y:=.inr (by rw[o1,o2,hq];omega);have hA:=h.anti x y hn;have cT:=h.anti E x Z;have cX:=h.anti E y aD;have I:y.1=x.1+1∨x.1=y.1+1:=by unfold Nb at hn;rw[hq,O]at hn;omega
    rcases I with I|I
    ·have hs:(E.1+x.1,E.2+x.2)=y:=Prod.ext (by show E.1+x.1=y.1;omega) (by show E.2+x.2=y.2;omega)
     have V:=h.tri E x Z;rw[hs]at V;grind
    ·have hs:(E.1+y.1,E.2+y.2)=x:=Prod.ext (by show E.1+y.1=x.1;omega) (by show E.2+y.2=x.2;omega)
     have V:=h.tri E y aD;rw[hs]at V;grind
  intro x y M U hn hN;rcases Int.le_total x.2 y.2 with J|J
  ·exact aX x y M U hn hN J
  ·have I:=aX y x U M hn.symm (by rw[Int.add_comm];exact hN) J
   have h2:=h.anti x y hn;grind
theorem Steps.chain {st:Int×Int->Int×Int->Rat} (h:Steps st) (ch:Nat->Int×Int):∀k,(∀j,j<=k->Gd (ch j))->(∀j,j<k->Nb (ch j) (ch (j+1)))->sumQ (λj=>st (ch j) (ch (j+1))) k=Pot st (ch k) - Pot st (ch 0)
 | 0,_,_=>by show(0:Rat)=_;grind
 | k+1,hg,hn=>by
  rw[sumQ,h.chain ch k (λj E=>hg j (by omega)) (λj E=>hn j (by omega)),h.diff _ _ _ (hg k (by omega)) (hg (k+1) (by omega)) (hn k (by omega)) (nL _)];grind
def ph (n wt:Nat) (D:Int) (x:Nat->Rat) (Q:Nat->Rat) (a b c d:Int):Rat:=cP n wt x (Ao n D c d) (subst Q wt a b c d (wt+1))
theorem Db {n:Nat} {a b c d:Int} (hn:0<n) (h:a*d - b*c=1):E5 n (H9 n c d)=true:=by
 refine Zc hn ?_
 have E:((Int.gcd c d:Nat):Int)∣1:=by
  rw[<-h];exact Int.dvd_sub (Int.dvd_trans (Int.gcd_dvd_right ..) (Int.dvd_mul_left _ _)) (Int.dvd_trans (Int.gcd_dvd_left ..) (Int.dvd_mul_left _ _))
 have I:(Int.gcd c d)∣1:=Int.natCast_dvd_natCast.1 E;exact Nat.dvd_one.1 I
section
variable {n wt:Nat} {D:Int} {x:Nat->Rat} {Q:Nat->Rat}
theorem Lj (a b c d E I J M:Int):subst (subst Q wt a b c d (wt+1)) wt E I J M (wt+1)=subst Q wt (a*E+b*J) (a*I+b*M) (c*E+d*J) (c*I+d*M) (wt+1):=funext λj=>P3 Q a b c d E I J M wt j
theorem F0 (E:Pl.check n ((wt:Int)+2) D=0) (J:RelZ n wt D x) {a b c d:Int} (h:a*d - b*c=1):ph n wt D x Q a b c d+ph n wt D x Q b (-a) d (-c)=0:=by
 obtain⟨⟨M,O⟩,_⟩:=Pl.check_ok E;have I:=Zi E J (Db (n:=n) (by omega) h) (subst Q wt a b c d (wt+1));rw[Lj,show a*0+b*1=b by omega,show a*(-1)+b*0=-a by omega,show c*0+d*1=d by omega,show c*(-1)+d*0=-c by omega]at I;exact I
theorem Y6 (E:Pl.check n ((wt:Int)+2) D=0) (J:RelZ n wt D x) {a b c d:Int} (h:a*d - b*c=1):ph n wt D x Q a b c d+ph n wt D x Q b (-a - b) d (-c - d)+ph n wt D x Q (-a - b) a (-c - d) c=0:=by
 obtain⟨⟨M,O⟩,_⟩:=Pl.check_ok E;have I:=Vi E J (Db (n:=n) (by omega) h) (subst Q wt a b c d (wt+1));rw[Lj,Lj,show a*0+b*1=b by omega,show a*(-1)+b*(-1)=-a - b by omega,show c*0+d*1=d by omega,show c*(-1)+d*(-1)=-c - d by omega,show a*1+b*0=a by omega,show c*1+d*0=c by omega]at I;exact I
theorem Km (E:Pl.check n ((wt:Int)+2) D=0) (I:RelZ n wt D x) {a b c d:Int} (h:a*d - b*c=1):ph n wt D x Q (-a) (-b) (-c) (-d)=ph n wt D x Q a b c d:=by
 have J:=F0 (Q:=Q) E I h;have M:=F0 (Q:=Q) E I (a:=b) (b:=-a) (c:=d) (d:=-c) (by grind);grind
def Aj (n wt:Nat) (D:Int) (x:Nat->Rat) (Q:Nat->Rat) (y z:Int×Int):Rat:=if z.1*y.2 - y.1*z.2=1 then ph n wt D x Q z.1 y.1 z.2 y.2 else ph n wt D x Q z.1 (-y.1) z.2 (-y.2)
theorem P0 (E:Pl.check n ((wt:Int)+2) D=0) (J:RelZ n wt D x):Steps (Aj n wt D x Q) where
 anti y z h:=by
  unfold Aj;rcases h with h|h
  ·rw[if_pos h,if_neg (by omega)]
   exact F0 E J (by grind)
  ·rw[if_neg (by omega),if_pos (by omega)]
   have I:=F0 (Q:=Q) E J (a:=z.1) (b:=-y.1) (c:=z.2) (d:=-y.2) (by grind);have M:=Km (Q:=Q) E J (a:=y.1) (b:=z.1) (c:=y.2) (d:=z.2) (by grind);rw[M]at I;exact I
 tri y z h:=by
  have O:∀y z:Int×Int,z.1*y.2 - y.1*z.2=1->Aj n wt D x Q y z+Aj n wt D x Q z (y.1+z.1,y.2+z.2)+Aj n wt D x Q (y.1+z.1,y.2+z.2) y=0:=by
   intro y z h;unfold Aj;dsimp only;rw[if_pos h,if_neg (by grind),if_neg (by grind)];have I:=Y6 (Q:=Q) E J (a:=z.1) (b:=y.1) (c:=z.2) (d:=y.2) (by grind);have M:=Km (Q:=Q) E J (a:=y.1+z.1) (b:=-z.1) (c:=y.2+z.2) (d:=-z.2) (by grind);rw[show -(y.1+z.1)=-z.1 - y.1 by omega,show -(y.2+z.2)=-z.2 - y.2 by omega,Int.neg_neg,Int.neg_neg]at M;rw[show -(y.1+z.1)=-z.1 - y.1 by omega,show -(y.2+z.2)=-z.2 - y.2 by omega,<-M];grind
  have anti:∀y z:Int×Int,Nb y z->Aj n wt D x Q y z+Aj n wt D x Q z y=0:=by
   intro y z h;unfold Aj;rcases h with h|h
   ·rw[if_pos h,if_neg (by omega)]
    exact F0 E J (by grind)
   ·rw[if_neg (by omega),if_pos (by omega)]
    have I:=F0 (Q:=Q) E J (a:=z.1) (b:=-y.1) (c:=z.2) (d:=-y.2) (by grind);have M:=Km (Q:=Q) E J (a:=y.1) (b:=z.1) (c:=y.2) (d:=z.2) (by grind);rw[M]at I;exact I
  rcases h with h|h
  ·exact O y z h
  ·have I:=O z y (by omega)
   rw[Int.add_comm z.1,Int.add_comm z.2]at I;have U:=anti y z (.inr h);have V:=anti z (y.1+z.1,y.2+z.2) (by unfold Nb;dsimp only;grind);have Z:=anti y (y.1+z.1,y.2+z.2) (by unfold Nb;dsimp only;grind);grind
end
end Go.Proofs.YtenlbhlllgppmaaGreatDoor
namespace Go.Proofs.YtenlbhlllgppmaaGreatDoor
open Tryz
def Fq (p q:Int):List Int:=if _h:0<q then p / q :: Fq q (p % q)else []
termination_by q.toNat
decreasing_by have:=Int.emod_lt_of_pos p (show 0<q by assumption);omega
theorem J4 (p:Int):Fq p 0=[]:=by rw[Fq,dif_neg (by decide)]
theorem Mz {p q:Int} (h:0<q):Fq p q=p / q :: Fq q (p % q):=by rw[Fq,dif_pos h]
def F8:Int×Int->Int×Int->List Int->List (Int×Int)
 | _,_,[]=>[]
 | b,l,n :: ns=>(n*l.1+b.1,n*l.2+b.2) :: F8 l (n*l.1+b.1,n*l.2+b.2) ns
theorem Gg:∀(E:List Int) (b l:Int×Int),(F8 b l E).length=E.length
 | [],_,_=>rfl
 | n :: E,b,l=>by rw[F8,List.length_cons,List.length_cons,Gg E]
def ChOk:List (Int×Int)->Prop
 | a :: b :: r=>Nb a b/\ChOk (b :: r)
 | _=>True
def InC (c:Int×Int):Prop:=-1073741824<=c.1/\c.1<=1073741824/\0<=c.2/\c.2<=1073741824
theorem O6 {p q n r:Int} (h:q*n+r=p) (hg:Int.gcd p q=1):Int.gcd q r=1:=by
 have E:((Int.gcd q r:Nat):Int)∣q:=Int.gcd_dvd_left ..;have J:((Int.gcd q r:Nat):Int)∣r:=Int.gcd_dvd_right ..;have I:Int.gcd q r∣Int.gcd p q:=Int.dvd_gcd (by rw[<-h];exact Int.dvd_add (Int.dvd_trans E (Int.dvd_mul_right _ _)) J) E;rw[hg]at I;exact Nat.dvd_one.1 I
theorem jZ {p0 q0 a b r e:Int} (I:-1073741824<=p0) (J:p0<=1073741824) (hq:0<q0) (M:0<=b) (E:b<=q0) (hr:0<=r) (U:r<q0) (hc:q0*a - p0*b=r*e) (O:e=1∨e=-1):-1073741824<=a/\a<=1073741824:=by
 have V:p0*b<=1073741824*q0:=Int.le_trans (Int.mul_le_mul_of_nonneg_right J M) (Int.mul_le_mul_of_nonneg_left E (by decide))
 have Z:-1073741824*q0<=p0*b:=by
  have h3:=Int.mul_le_mul_of_nonneg_right I M;have h4:=Int.mul_le_mul_of_nonneg_left E (show(0:Int)<=1073741824 by decide);omega
 have h5:-r<=r*e/\r*e<=r:=by rcases O with rfl|rfl <;> omega
 constructor
 ·rcases Int.lt_or_le a (-1073741824)with h|h
  ·exfalso
   have:=Int.mul_le_mul_of_nonneg_left (show a<=-1073741825 by omega) (Int.le_of_lt hq);omega
  ·exact h
 ·rcases Int.lt_or_le 1073741824 a with h|h
  ·exfalso
   have:=Int.mul_le_mul_of_nonneg_left (show 1073741825<=a by omega) (Int.le_of_lt hq);omega
  ·exact h
theorem cH {p0 q0:Int} (cF:-1073741824<=p0) (cG:p0<=1073741824) (gN:q0<=1073741824):∀(j:Nat) (p q:Int) (b l:Int×Int),0<=q->q<p->p*q<2 ^ j->Int.gcd p q=1->l.1*p+b.1*q=p0->l.2*p+b.2*q=q0 ->
  (l.1*b.2 - b.1*l.2=1∨l.1*b.2 - b.1*l.2=-1)->1<=l.2->0<=b.2 ->
  (Fq p q).length<=j/\(∀n∈Fq p q,1<=n/\n<=1073741824)/\(∀c∈F8 b l (Fq p q),InC c/\1<=c.2)/\ChOk (l :: F8 b l (Fq p q))/\(l :: F8 b l (Fq p q)).getLast?=some (p0,q0):=by
 intro j;induction j with
 | zero=>
  intro p q b l hq cM cI hg e1 e2 hd hl hb
  obtain rfl:q=0:=by
   rcases Int.lt_or_eq_of_le hq with h|h
   ·have:=Int.mul_le_mul (show(1:Int)<=p by omega) (show(1:Int)<=q by omega) (by omega) (by omega)
    omega
   ·exact h.symm
  have hp:p=1:=by simp at hg;omega
  subst hp;have V:=J4 1;rw[V];refine⟨by simp,by simp,by simp[F8],by simp[F8,ChOk],?_⟩;have J:l=(p0,q0):=Prod.ext (by show l.1=p0;omega) (by show l.2=q0;omega);simp[F8,J]
 | succ j ih=>
  intro p q b l hq cM cI hg e1 e2 hd hl hb;rcases Int.lt_or_eq_of_le hq with O|O
  ·have U:=Int.emod_nonneg p (show q≠0 by omega)
   have aX:=Int.emod_lt_of_pos p O;have I:=Int.mul_ediv_add_emod p q;obtain⟨r,hr⟩:∃r,p % q=r:=⟨_,rfl⟩
   obtain⟨n,hn⟩:∃n,p / q=n:=⟨_,rfl⟩
   rw[hr]at U aX I;rw[hn]at I
   have aN:1<=n:=by
    rcases Int.lt_or_le n 1 with h|h
    ·have:=Int.mul_le_mul_of_nonneg_left (show n<=0 by omega) (show 0<=q by omega)
     omega
    ·exact h
   have gI:n<=p:=by
    have:=Int.mul_le_mul_of_nonneg_right (show(1:Int)<=q by omega) (show 0<=n by omega);omega
   have cS:q*r<2 ^ j:=by
    have J:q*q+q*r<=p*q:=by
     have h3:q*q<=q*n*q:=by
      have:=Int.mul_le_mul_of_nonneg_left aN (show 0<=q*q from Int.mul_nonneg hq hq)
      calc q*q=q*q*1:=by omega
       _<=q*q*n:=this
       _=q*n*q:=by grind
     have h4:p*q=q*n*q+q*r:=by rw[<-I];grind
     omega
    have h2:q*r<=q*q:=Int.mul_le_mul_of_nonneg_left (show r<=q by omega) hq;have h5:(2:Int) ^ (j+1)=2*2 ^ j:=by rw[Int.pow_succ];omega
    omega
   have bY:Int.gcd q r=1:=O6 I hg;obtain⟨E,aD⟩:∃E:Int×Int,E=(n*l.1+b.1,n*l.2+b.2):=⟨_,rfl⟩
   have l1:E.1=n*l.1+b.1:=by rw[aD]
   have l2:E.2=n*l.2+b.2:=by rw[aD]
   have f1:E.1*q+l.1*r=p0:=by rw[l1,<-e1,<-I];grind
   have f2:E.2*q+l.2*r=q0:=by rw[l2,<-e2,<-I];grind
   have aK:1<=E.2:=by
    have:=Int.mul_le_mul_of_nonneg_right aN (show 0<=l.2 by omega);omega
   have Z:E.1*l.2 - l.1*E.2=1∨E.1*l.2 - l.1*E.2=-1:=by
    have:E.1*l.2 - l.1*E.2=-(l.1*b.2 - b.1*l.2):=by rw[l1,l2];grind
    omega
   obtain⟨g1,g2,g3,g4,g5⟩:=ih q r l E U aX cS bY f1 f2 Z aK (by omega)
   have eF:q<q0:=by
    have J:=Int.mul_le_mul_of_nonneg_right hl (show 0<=p by omega);have h2:=Int.mul_nonneg hb hq;omega
   have cC:E.2<=q0:=by
    have J:=Int.mul_le_mul_of_nonneg_left (show(1:Int)<=q by omega) (show 0<=E.2 by omega);have h2:=Int.mul_nonneg (show 0<=l.2 by omega) U;omega
   have gL:p<=q0:=by
    have J:=Int.mul_le_mul_of_nonneg_right hl (show 0<=p by omega);have h2:=Int.mul_nonneg hb hq;omega
   have M:q0*E.1 - p0*E.2=r*(E.1*l.2 - l.1*E.2):=by rw[<-f1,<-f2];grind
   have cA:InC E:=by
    have J:=jZ cF cG (by omega) (by omega) cC U (by omega) M Z;exact⟨J.1,J.2,by omega,by omega⟩
   have bC:Fq p q=n :: Fq q r:=by rw[Mz O,hn,hr]
   have bE:F8 b l (n :: Fq q r)=E :: F8 l E (Fq q r):=by rw[F8,<-aD]
   rw[bC,bE];refine⟨by rw[List.length_cons];omega,λx hx=>?_,λc V=>?_,⟨?_,g4⟩,?_⟩
   ·rcases List.mem_cons.1 hx with rfl|hx
    ·omega
    ·exact g2 x hx
   ·rcases List.mem_cons.1 V with rfl|V
    ·exact⟨cA,aK⟩
    ·exact g3 c V
   ·exact Z
   ·rw[List.getLast?_cons_cons];exact g5
  ·subst O
   have hp:p=1:=by simp at hg;omega
   subst hp;have V:=J4 1;rw[V];refine⟨by simp,by simp,by simp[F8],by simp[F8,ChOk],?_⟩;have J:l=(p0,q0):=Prod.ext (by show l.1=p0;omega) (by show l.2=q0;omega);simp[F8,J]
def Cn (x:Int×Int):List (Int×Int):=(1,0) :: if x.2=0 then []else F8 (0,1) (1,0) (Fq x.1 x.2)
theorem I7 {x:Int×Int} (h:Al x.1 x.2=0):(-1073741824<=x.1/\x.1<=1073741824)/\(0<=x.2/\x.2<=1073741824)/\Int.gcd x.1 x.2=1/\(x.2=0->x.1=1):=by
 unfold Al at h;split at h
 ·cases h
 ·rename_i h1
  split at h
  ·cases h
  ·rename_i h2
   simp only[Hp,Bool.and_eq_false_iff,decide_eq_false_iff_not]at h1;refine⟨by omega,by omega,by omega,λe=>by omega⟩
theorem W7 {x:Int×Int} (h:Al x.1 x.2=0) (hq:x.2≠0):((Fq x.1 x.2).length<=61/\0<(Fq x.1 x.2).length)/\(∀i n,(Fq x.1 x.2)[i]?=some n->-1073741824<=n/\n<=1073741824/\(0<i->1<=n))/\(∀c∈F8 (0,1) (1,0) (Fq x.1 x.2),InC c/\1<=c.2)/\ChOk ((1,0) :: F8 (0,1) (1,0) (Fq x.1 x.2))/\((1,0) :: F8 (0,1) (1,0) (Fq x.1 x.2)).getLast?=some x:=by
 obtain⟨⟨p0,p1⟩,⟨q0,q1⟩,hg,_⟩:=I7 h;obtain⟨p,q⟩:=x;dsimp only at *;have J:=Int.emod_nonneg p hq;have M:=Int.emod_lt_of_pos p (show 0<q by omega);have E:=Int.mul_ediv_add_emod p q;obtain⟨r,hr⟩:∃r,p % q=r:=⟨_,rfl⟩
 obtain⟨n,hn⟩:∃n,p / q=n:=⟨_,rfl⟩
 have V:Fq p q=n :: Fq q r:=by rw[Mz (by omega),hn,hr]
 rw[hr]at J M E;rw[hn]at E
 have Z:F8 (0,1) (1,0) (n :: Fq q r)=(n,1) :: F8 (1,0) (n,1) (Fq q r):=by
  rw[F8];simp
 have I:-1073741824<=n/\n<=1073741824:=by
  constructor
  ·rcases Int.lt_or_le n (-1073741824)with h|h
   ·exfalso
    have O:=Int.mul_le_mul_of_nonneg_left (show n<=-1073741825 by omega) (show 0<=q by omega);have h2:q*1073741825=q * -1073741825 * -1:=by omega
    omega
   ·exact h
  ·rcases Int.lt_or_le 1073741824 n with h|h
   ·exfalso
    have O:=Int.mul_le_mul_of_nonneg_left (show 1073741825<=n by omega) (show 0<=q by omega);omega
   ·exact h
 have aD:Int.gcd q r=1:=O6 E hg
 have aK:q*r<2 ^ 60:=by
  have O:=Int.mul_le_mul (show q<=1073741824 by omega) (show r<=1073741823 by omega) J (by omega);have h2:(2:Int) ^ 60=1152921504606846976:=by decide
  omega
 obtain⟨g1,g2,g3,g4,g5⟩:=cH (p0:=p) (q0:=q) p0 p1 q1 60 q r (1,0) (n,1) J M aK aD (by dsimp only;rw[<-E,Int.mul_comm];omega) (by dsimp only;omega) (by dsimp only;omega) (by dsimp only;omega) (by dsimp only;omega);rw[V,Z];refine⟨⟨by rw[List.length_cons];omega,by simp⟩,λi z hz=>?_,λc U=>?_,⟨?_,g4⟩,?_⟩
 ·cases i with
  | zero=>simp at hz;subst hz;exact⟨I.1,I.2,λh=>absurd h (Nat.lt_irrefl 0)⟩
  | succ i=>
   have O:=g2 z (List.mem_of_getElem? (by simpa using hz));exact⟨by omega,by omega,λ_=>O.1⟩
 ·rcases List.mem_cons.1 U with rfl|U
  ·exact⟨⟨I.1,I.2,by dsimp only;omega,by dsimp only;omega⟩,by dsimp only;omega⟩
  ·exact g3 c U
 ·unfold Nb;dsimp only;omega
 ·rw[List.getLast?_cons_cons];exact g5
theorem Nr {x:Int×Int} (h:Al x.1 x.2=0):(Cn x).length<=62/\(∀c∈Cn x,InC c/\Gd c)/\ChOk (Cn x)/\(Cn x).getLast?=some x:=by
 have I:InC ((1,0):Int×Int):=⟨by decide,by decide,by decide,by decide⟩
 unfold Cn;by_cases hq:x.2=0
 ·rw[if_pos hq]
  have V:=(I7 h).2.2.2 hq;refine⟨by simp,λc E=>?_,by simp[ChOk],?_⟩
  ·simp at E;subst E;exact⟨I,⟨by decide,λ_=>rfl⟩⟩
  ·have:x=(1,0):=Prod.ext V hq
   rw[this];rfl
 ·rw[if_neg hq]
  obtain⟨Z,a2,J,M,O⟩:=W7 h hq;refine⟨by rw[List.length_cons,Gg];omega,λc E=>?_,M,O⟩;rcases List.mem_cons.1 E with rfl|E
  ·exact⟨I,⟨by decide,λ_=>rfl⟩⟩
  ·have U:=J c E
   exact⟨U.1,⟨by omega,λe=>by omega⟩⟩
theorem ChOk.get:∀{l:List (Int×Int)},ChOk l->∀(j:Nat) (a b:Int×Int),l[j]?=some a->l[j+1]?=some b->Nb a b
 | [],_,j,a,b,h,_=>by simp at h
 | [c],_,j,a,b,h,h'=>by simp at h'
 | c :: d :: r,h,0,a,b,ha,hb=>by simp at ha hb;subst ha;subst hb;exact h.1
 | c :: d :: r,h,j+1,a,b,ha,hb=>ChOk.get (l:=d :: r) h.2 j a b (by simpa using ha) (by simpa using hb)
structure ChainOk (a b:Int×Int) (ch:List (Int×Int)):Prop where
 len:ch.length<=124
 pos:0<ch.length
 first:ch[0]?=some a
 last:ch[ch.length - 1]?=some b
 good:∀c∈ch,InC c/\Gd c
 nb:∀j c d,ch[j]?=some c->ch[j+1]?=some d->Nb c d
theorem Rb {a b:Int×Int} (ha:Al a.1 a.2=0) (hb:Al b.1 b.2=0) {c:Nat} (hc:0<c) (h1:c<=(Cn a).length) (h2:c<=(Cn b).length) (he:∀j,j<c->(Cn a)[j]?=(Cn b)[j]?):ChainOk a b (((Cn a).drop (c - 1)).reverse++(Cn b).drop c):=by
 obtain⟨a1,a2,a3,a4⟩:=Nr ha;obtain⟨b1,b2,b3,V⟩:=Nr hb;rw[List.getLast?_eq_getElem?]at a4 V;obtain⟨la,E⟩:∃la,(Cn a).length=la:=⟨_,rfl⟩
 obtain⟨M,U⟩:∃M,(Cn b).length=M:=⟨_,rfl⟩
 rw[E]at a1 a4 h1;rw[U]at b1 V h2;have hl:(((Cn a).drop (c - 1)).reverse++(Cn b).drop c).length=(la - (c - 1))+(M - c):=by simp[E,U]
 have O:∀j,j<la - (c - 1)->(((Cn a).drop (c - 1)).reverse++(Cn b).drop c)[j]?=(Cn a)[la - 1 - j]?:=λj hj=>by
  rw[List.getElem?_append_left (by simp[E];omega),List.getElem?_reverse (by simp[E];omega),List.getElem?_drop];congr 1;simp[E];omega
 have Z:∀j,la - (c - 1)<=j->(((Cn a).drop (c - 1)).reverse++(Cn b).drop c)[j]?=(Cn b)[c+(j - (la - (c - 1)))]?:=λj hj=>by
  rw[List.getElem?_append_right (by simp[E];omega),List.getElem?_drop];congr 1;simp[E]
 refine⟨by rw[hl];omega,by rw[hl];omega,by rw[O 0 (by omega)];exact a4,?_,λx I=>?_,λj x y I J=>?_⟩
 ·rw[hl]
  by_cases h:M=c
  ·rw[O _ (by omega),show la - 1 - ((la - (c - 1))+(M - c) - 1)=c - 1 by omega,he (c - 1) (by omega),<-V,h]
  ·rw[Z _ (by omega),<-V]
   congr 1;omega
 ·rcases List.mem_append.1 I with I|I
  ·exact a2 x (List.mem_of_mem_drop (List.mem_reverse.1 I))
  ·exact b2 x (List.mem_of_mem_drop I)
 ·have hj:j+1<(la - (c - 1))+(M - c):=by rw[<-hl];exact(List.getElem?_eq_some_iff.1 J).1
  by_cases h3:j+1<la - (c - 1)
  ·rw[O j (by omega)]at I
   rw[O (j+1) h3]at J;exact(a3.get (la - 1 - (j+1)) y x J (by rw[show la - 1 - (j+1)+1=la - 1 - j by omega];exact I)).symm
  ·by_cases h4:j<la - (c - 1)
   ·rw[O j h4,show la - 1 - j=c - 1 by omega,he (c - 1) (by omega)]at I
    rw[Z (j+1) (by omega),show c+(j+1 - (la - (c - 1)))=c - 1+1 by omega]at J;exact b3.get (c - 1) x y I J
   ·rw[Z j (by omega)]at I
    rw[Z (j+1) (by omega),show c+(j+1 - (la - (c - 1)))=c+(j - (la - (c - 1)))+1 by omega]at J;exact b3.get _ x y I J
end Go.Proofs.YtenlbhlllgppmaaGreatDoor
