/- Contracts of the functions that compute a greatest common divisor or a residue. -/
import Derived.Test.YtenlbhlllgppmaaGreatDoorC01
import Derived.Lib.TrailingZeros
set_option maxRecDepth 100000
namespace Go.Proofs.YtenlbhlllgppmaaGreatDoor
section
open Go.RowKit Tryz
theorem Ec (a b:Int) (w:World) (V:-9223372036854775807<=a) (E:a<=9223372036854775807) (Z:-9223372036854775807<=b) (I:b<=9223372036854775807):
  Calls prog 40 #[.int .i64 a,.int .i64 b] w λe w'=>e=.returned (.int .i64 (Int.gcd a b))/\∃n,w'=w.drewN n:=by
 go_enter func40,ntmps40
 go_wp2;go_loopw [0,1] (λx y wr=>∃x' y':Int,x=.int .i64 x'/\y=.int .i64 y'/\-9223372036854775807<=x'/\x'<=9223372036854775807/\-9223372036854775807<=y'/\y'<=9223372036854775807/\Int.gcd x' y'=Int.gcd a b/\∃n,wr=w.drewN n) (λ_ y _=>(intOf y).natAbs)
 case atStart=>exact⟨a,b,rfl,rfl,V,E,Z,I,rfl,0,rfl⟩
 case round=>
  obtain⟨x,y,rfl,rfl,hx,aD,hy,J,hg,n,rfl⟩:=hrel;have M:=Kh hg;clear hg;by_cases h0:y=0
  ·subst h0
   go_wp2;all_goals (go_ret;refine⟨A5 ?_,n,rfl⟩;rw[<-M.1,O8];first |(rw[if_pos (by omega)];done) |(rw[if_neg (by omega)];done)|omega)
  ·obtain⟨O,h⟩:=O7 x y h0
   have U:=Kh O;clear O;go_wp2;go_quiet (fail)
   go_wp2;go_roundw
   case rel=>exact⟨y,x.tmod y,rfl,rfl,hy,J,by omega,by omega,by rw[U.1,M.1],_,Lx _ _ _⟩
   case measure=>exact h
theorem Mu (a b:Int) (w:World) (V:-9223372036854775807<=a) (E:a<=9223372036854775807) (Z:-9223372036854775807<=b) (I:b<=9223372036854775807):
  Calls prog 184 #[.int .i64 a,.int .i64 b] w λe w'=>e=.returned (.int .i64 (Int.gcd a b))/\∃n,w'=w.drewN n:=by
 go_enter func184,ntmps184
 go_wp2;go_loopw [0,1] (λx y wr=>∃x' y':Int,x=.int .i64 x'/\y=.int .i64 y'/\-9223372036854775807<=x'/\x'<=9223372036854775807/\-9223372036854775807<=y'/\y'<=9223372036854775807/\Int.gcd x' y'=Int.gcd a b/\∃n,wr=w.drewN n) (λ_ y _=>(intOf y).natAbs)
 case atStart=>exact⟨a,b,rfl,rfl,V,E,Z,I,rfl,0,rfl⟩
 case round=>
  obtain⟨x,y,rfl,rfl,hx,aD,hy,J,hg,n,rfl⟩:=hrel;have M:=Kh hg;clear hg;by_cases h0:y=0
  ·subst h0
   go_wp2;all_goals (go_ret;refine⟨A5 ?_,n,rfl⟩;rw[<-M.1,O8];first |(rw[if_pos (by omega)];done) |(rw[if_neg (by omega)];done)|omega)
  ·obtain⟨O,h⟩:=O7 x y h0
   have U:=Kh O;clear O;go_wp2;go_quiet (fail)
   go_wp2;go_roundw
   case rel=>exact⟨y,x.tmod y,rfl,rfl,hy,J,by omega,by omega,by rw[U.1,M.1],_,Lx _ _ _⟩
   case measure=>exact h
theorem Dj (a m:Int) (E:0<m):(if a.tmod m<0 then a.tmod m+m else a.tmod m)=a % m:=by
 rw[Int.tmod_eq_emod];have I:=Int.emod_nonneg a (show m≠0 by omega);have J:=Int.emod_lt_of_pos a E;by_cases h:0<=a∨m∣a
 ·rw[if_pos h];split <;> omega
 ·rw[if_neg h];split <;> omega
theorem c_residue (a m:Int) (w:World) (E:0<m) (J:m<=4611686018427387904):
  Calls prog 126 #[.int .i64 a,.int .i64 m] w λe w'=>e=.returned (.int .i64 (a % m))/\w'=w:=by
 have M:-m<a.tmod m:=by have:=Int.lt_tmod_of_pos a E;omega
 have O:a.tmod m<m:=Int.tmod_lt_of_pos a E;have I:=Kh (Dj a m E);go_enter func126,ntmps126
 go_wp2;all_goals (go_ret;refine⟨A5 ?_,rfl⟩;rw[<-I.1];first |(rw[if_pos (by omega)];done) |(rw[if_neg (by omega)];done))
theorem Ls (a m:Int) (w:World) (E:0<m) (J:m<=4611686018427387904):
  Calls prog 181 #[.int .i64 a,.int .i64 m] w λe w'=>e=.returned (.int .i64 (a % m))/\w'=w:=by
 have M:-m<a.tmod m:=by have:=Int.lt_tmod_of_pos a E;omega
 have O:a.tmod m<m:=Int.tmod_lt_of_pos a E;have I:=Kh (Dj a m E);go_enter func181,ntmps181
 go_wp2;all_goals (go_ret;refine⟨A5 ?_,rfl⟩;rw[<-I.1];first |(rw[if_pos (by omega)];done) |(rw[if_neg (by omega)];done))
end
namespace Pl
open Go
def jacOut (a m:Nat) (out:Int):Int:=
 let z:=Lib.ctz 64 a
 let b:=a / 2 ^ z
 let o1:=if z % 2=1/\(m % 8=3∨m % 8=5)then -out else out
 if b % 4=3/\m % 4=3 then -o1 else o1
def jac:Nat->Nat->Nat->Int->Int
 | 0,_,_,_=>0
 | f+1,a,m,out=>
  if a=0 then(if m=1 then out else 0)else
  jac f (m % (a / 2 ^ Lib.ctz 64 a)) (a / 2 ^ Lib.ctz 64 a) (jacOut a m out)
def kroP (a:Int) (n:Nat):Int:=
 let z:=Lib.ctz 64 n
 if 0<z/\a % 2=0 then 0 else
 let m:=n / 2 ^ z
 (if z % 2=1/\(a % 8=3∨a % 8=5)then -1 else 1)*jac (m+1) (a % m).toNat m 1
def mult:Nat->Nat->Nat->Nat×Nat
 | 0,_,n=>(0,n)
 | f+1,p,n=>if n % p=0 then((mult f p (n / p)).1+1,(mult f p (n / p)).2)else(0,n)
def facP:Nat->Nat->Nat->List (Nat×Nat)
 | 0,_,_=>[]
 | f+1,p,n=>
  if n<=1 then []else
  let q:=if n<p*p then n else p
  let r:=mult n q n
  if 0<r.1 then(q,r.1) :: facP f (q+1) r.2 else facP f (q+1) r.2
def facs (n:Nat):List (Nat×Nat):=facP (n+3) 2 n
def facM (p n:Nat):Nat:=if n<=1 then 0 else if n<p*p then 1 else n+2 - p
theorem mult_pos:∀(f p n:Nat),0<n->0<p->0<(mult f p n).2/\(mult f p n).2<=n
 | 0,_,n,h,_=>⟨h,Nat.le_refl _⟩
 | f+1,p,n,h,hp=>by
  unfold mult;split
  ·rename_i hd
   have I:0<n / p:=Nat.div_pos (Nat.le_of_dvd h (Nat.dvd_of_mod_eq_zero hd)) hp;have E:=mult_pos f p (n / p) I hp;have J:=Nat.div_le_self n p;exact⟨E.1,by have:=E.2;show(mult f p (n / p)).2<=n;omega⟩
  ·exact⟨h,Nat.le_refl _⟩
theorem mult_le:∀(f p n:Nat),(mult f p n).1<=f
 | 0,_,_=>Nat.le_refl _
 | f+1,p,n=>by
  unfold mult;split
  ·have:=mult_le f p (n / p);show(mult f p (n / p)).1+1<=f+1;omega
  ·exact Nat.zero_le _
theorem U8 (n:Nat) (h:1<n):mult n n n=(1,1):=by
 obtain⟨k,rfl⟩:∃k,n=k+1:=⟨n - 1,by omega⟩
 rw[mult,if_pos (Nat.mod_self _),Nat.div_self (by omega)]
 have:mult k (k+1) 1=(0,1):=by
  obtain⟨j,rfl⟩:∃j,k=j+1:=⟨k - 1,by omega⟩
  rw[mult,if_neg (by rw[Nat.mod_eq_of_lt (by omega)];omega)]
 rw[this]
theorem facP_succ {f p n q e m:Nat} (hn:1<n) (hq:q=if n<p*p then n else p) (E:mult n q n=(e,m)):
  facP (f+1) p n=if 0<e then(q,e) :: facP f (q+1) m else facP f (q+1) m:=by
 subst hq;rw[facP,if_neg (by omega)];dsimp only;rw[E]
theorem facM_lt {p n q e m:Nat} (O:1<p) (hn:1<n) (hq:q=if n<p*p then n else p) (I:mult n q n=(e,m)):facM (q+1) m<facM p n:=by
 unfold facM;rw[if_neg (show ¬n<=1 by omega)];have E:=mult_pos n q n (by omega) (by subst hq;split <;> omega);rw[I]at E;by_cases h:n<p*p
 ·rw[if_pos h]at hq ⊢
  subst hq;rw[U8 _ hn]at I;injection I with h1 h2
  subst h2;simp
 ·rw[if_neg h]at hq ⊢
  subst hq;have M:q*2<=q*q:=Nat.mul_le_mul_left _ (by omega);have J:=E.2;dsimp only at J;by_cases h5:m<=1
  ·rw[if_pos h5];omega
  ·rw[if_neg h5]
   split <;> omega
def fundFold (l:List (Nat×Nat)):Nat×Nat:=l.foldl (λxy pe=>(xy.1*pe.1 ^ (pe.2 % 2),xy.2*pe.1 ^ (pe.2 / 2))) (1,1)
def psiFold (l:List (Nat×Nat)):Nat:=l.foldl (λx pe=>x*(pe.1 ^ (pe.2 - 1)*(pe.1+1))) 1
def psi (n:Nat):Nat:=psiFold (facs n)
def fundP (d:Int):Int×Int:=
 let xy:=fundFold (facs d.natAbs)
 let free:Int:=if d<0 then -(xy.1:Int)else xy.1
 if free % 4≠1 then(4*free,((xy.2 / 2:Nat):Int))else(free,xy.2)
theorem Q7:∀n,n<121->∀k,k<4->∀q e,(facs n)[k]?=some (q,e)->1<q/\q<=120/\0<e/\e<=6/\q ^ e<=120/\(fundFold ((facs n).take k)).1*q ^ (e % 2)<=120/\(fundFold ((facs n).take k)).2*q ^ (e / 2)<=120/\psiFold ((facs n).take k)*(q ^ (e - 1)*(q+1))<=1000:=by
 have h:((List.range 121).all λn=>(List.range 4).all λk=>match (facs n)[k]? with
  | none=>true
  | some (q,e)=>decide (1<q/\q<=120/\0<e/\e<=6/\q ^ e<=120/\(fundFold ((facs n).take k)).1*q ^ (e % 2)<=120/\(fundFold ((facs n).take k)).2*q ^ (e / 2)<=120/\psiFold ((facs n).take k)*(q ^ (e - 1)*(q+1))<=1000))=true:=by decide +kernel
 intro n hn k J q e hg;rw[List.all_eq_true]at h;have E:=h n (List.mem_range.2 hn);rw[List.all_eq_true]at E;have I:=E k (List.mem_range.2 J);rw[hg]at I;exact of_decide_eq_true I
theorem Xg:∀n,n<121->(facs n).length<=4:=by decide +kernel
theorem facs_at {n k q e:Nat} (hn:n<121) (h:(facs n)[k]?=some (q,e)):1<q/\q<=120/\0<e/\e<=6/\q ^ e<=120/\(fundFold ((facs n).take k)).1*q ^ (e % 2)<=120/\(fundFold ((facs n).take k)).2*q ^ (e / 2)<=120/\psiFold ((facs n).take k)*(q ^ (e - 1)*(q+1))<=1000:=by
 have I:k<(facs n).length:=by
  rcases Nat.lt_or_ge k (facs n).length with hlt|E
  ·exact hlt
  ·rw[List.getElem?_eq_none E]at h;cases h
 exact Q7 n hn k (by have:=Xg n hn;omega) q e h
theorem Mj {l:List (Nat×Nat)} {k:Nat} {E:Nat×Nat} (h:l[k]?=some E):l.take (k+1)=l.take k++[E]:=by
 rw[List.take_add_one,h];rfl
theorem fundFold_snoc {l:List (Nat×Nat)} {k q e:Nat} (h:l[k]?=some (q,e)):fundFold (l.take (k+1))=((fundFold (l.take k)).1*q ^ (e % 2),(fundFold (l.take k)).2*q ^ (e / 2)):=by
 rw[Mj h];unfold fundFold;rw[List.foldl_append];rfl
theorem psiFold_snoc {l:List (Nat×Nat)} {k q e:Nat} (h:l[k]?=some (q,e)):psiFold (l.take (k+1))=psiFold (l.take k)*(q ^ (e - 1)*(q+1)):=by
 rw[Mj h];unfold psiFold;rw[List.foldl_append];rfl
theorem fund_bound:∀n,n<121->(fundFold (facs n)).1<=120/\(fundFold (facs n)).2<=120:=by decide +kernel
def freeGo:Nat->Nat->Nat->Bool
 | 0,_,_=>true
 | f+1,p,n=>if p*p<=n then(if n % (p*p)=0 then false else freeGo f (p+1) n)else true
def free (n:Nat):Bool:=freeGo (n+1) 2 n
def fundR (d:Int):Bool:=decide (d≠0)&&decide (d≠1)&&((decide (d % 4=1)&&free d.natAbs)||(decide (d % 4=0)&&decide (2<=(d / 4) % 4)&&free (d / 4).natAbs))
def primeAt (p:Nat):Nat->Bool
 | 0=>true
 | k+1=>primeAt p k&&(p % (k+2) != 0)
def psiAt (n:Nat):Nat->Nat
 | 0=>n
 | k+1=>if primeAt (k+2) k&&(n % (k+2)==0)then psiAt n k / (k+2)*(k+2+1)else psiAt n k
theorem psiAt_small:∀n,n<121->∀k,k<121->psiAt n k<=1000:=by
 have h:((List.range 121).all λn=>(List.range 121).all λk=>decide (psiAt n k<=1000))=true:=by decide +kernel
 intro n hn k I;rw[List.all_eq_true]at h;have E:=h n (List.mem_range.2 hn);rw[List.all_eq_true]at E;exact of_decide_eq_true (E k (List.mem_range.2 I))
theorem psi_eq:∀n,0<n->n<121->psiAt n (n - 1)=psi n:=by
 have h:((List.range 121).all λn=>decide (n=0∨psiAt n (n - 1)=psi n))=true:=by decide +kernel
 intro n E hn;rw[List.all_eq_true]at h;exact(of_decide_eq_true (h n (List.mem_range.2 hn))).resolve_left (by omega)
def fund (d:Int):Bool:=decide (d≠0)&&decide (d % 4<=1)&&decide ((fundP d).2=1)
theorem fund_eq:∀d:Int,-120<=d->d<=120->(decide (d=1)||fundR d)=fund d:=by
 have h:((List.range 241).all λ(n:Nat)=>decide ((decide (((n:Int) - 120)=1)||fundR ((n:Int) - 120))=fund ((n:Int) - 120)))=true:=by decide +kernel
 intro d I J;rw[List.all_eq_true]at h;have E:=of_decide_eq_true (h (d+120).toNat (List.mem_range.2 (by omega)));rw[show(((d+120).toNat:Nat):Int) - 120=d from by omega]at E;exact E
def check (N k D:Int):Int:=
 if N<1∨120<N∨k<2∨24<k∨D < -120∨120<D then 2
 else if fund D=false then 15
 else if N % D≠0 then 14
 else if(D<0/\k % 2=0)∨(0<D/\k % 2=1)then 16
 else if 512<(psi N.toNat:Int)*(k - 1)then 7
 else 0
theorem psi_small (n:Nat) (E:0<n) (h:n<121):psi n<=1000:=by
 rw[<-psi_eq n E h];exact psiAt_small n h (n - 1) (by omega)
def gR:Nat->Nat->Nat->List (Nat×Nat)
 | 0,_,_=>[]
 | f+1,d,n=>
  if d*d<=n then
   (if 0<(mult n d n).1 then(d,(mult n d n).1) :: gR f (d+1) (mult n d n).2 else gR f (d+1) (mult n d n).2)
  else if 1<n then [(n,1)]else []
def kB (n:Nat):List (Nat×Nat):=gR (n+1) 2 n
def fA (a:Int):Int:=if a % 8=1∨a % 8=7 then 1 else if a % 8=3∨a % 8=5 then -1 else 0
def kU:Nat->Nat->Nat->Nat->Nat->Nat
 | 0,out,_,_,_=>out
 | f+1,out,x,n,m=>if 0<n then kU f (if n % 2=1 then out*x % m else out) (x*x % m) (n / 2) m else out
def mT (a:Int) (p:Nat):Int:=
 if 2<p then
  let s:=kU 64 (1 % p) (a % (p:Int)).toNat ((p - 1) / 2) p
  if s=p - 1 then -1 else(s:Int)
 else fA a
def kE (s:Int):Nat->Int
 | 0=>1
 | k+1=>kE s k*s
def cQ (a:Int) (l:List (Nat×Nat)):Int:=l.foldl (λout pe=>out*kE (mT a pe.1) pe.2) 1
def lY (a:Int) (n:Nat):Int:=cQ a (kB n)
end Pl
end Go.Proofs.YtenlbhlllgppmaaGreatDoor
