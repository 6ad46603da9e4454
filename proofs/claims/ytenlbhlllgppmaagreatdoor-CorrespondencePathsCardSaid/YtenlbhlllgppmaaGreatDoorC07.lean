/- Contracts of the reference's Kronecker symbol and of the character. -/
import Derived.Test.YtenlbhlllgppmaaGreatDoorC05
import Derived.Test.YtenlbhlllgppmaaGreatDoorC06
set_option maxRecDepth 100000
set_option maxHeartbeats 8000000
namespace Go.Proofs.YtenlbhlllgppmaaGreatDoor
section
open Go.RowKit
theorem Lz {E:Type} (f:E->List Value) (l:List E) (x:E):(l++[x]).flatMap f=l.flatMap f++f x:=by simp
theorem Pc {E:Type} (l:List E) (x:E):(l++[x]).length=l.length+1:=by simp
end
namespace Pl
abbrev Cos:=(Nat×Nat×Nat)×Int
def cosRow (chi:Nat->Int) (n a b:Nat):List Cos:=(List.range b).map λj=>((a,j,n / a),chi a)
def cosAt (chi:Nat->Int) (N n:Nat):Nat->List Cos
 | 0=>[]
 | k+1=>cosAt chi N n k++(if n % (k+1)=0/\Nat.gcd (k+1) N=1 then cosRow chi n (k+1) (n / (k+1))else [])
theorem cosRow_succ (chi:Nat->Int) (n a b:Nat):cosRow chi n a (b+1)=cosRow chi n a b++[((a,b,n / a),chi a)]:=by
 unfold cosRow;rw[List.range_succ,List.map_append];rfl
theorem cosRow_len (chi:Nat->Int) (n a b:Nat):(cosRow chi n a b).length=b:=by unfold cosRow;simp
theorem cosAt_len (chi:Nat->Int) (N n:Nat):∀k,(cosAt chi N n k).length<=k*n
 | 0=>by simp[cosAt]
 | k+1=>by
  have:=cosAt_len chi N n k;rw[cosAt,List.length_append,Nat.succ_mul];split
  ·rw[cosRow_len];have:=Nat.div_le_self n (k+1);omega
  ·simp;omega
theorem cosAt_yes {chi:Nat->Int} {N n k:Nat} (h:n % (k+1)=0) (E:Nat.gcd (k+1) N=1):cosAt chi N n (k+1)=cosAt chi N n k++cosRow chi n (k+1) (n / (k+1)):=by
 rw[cosAt,if_pos ⟨h,E⟩]
theorem cosAt_no {chi:Nat->Int} {N n k:Nat} (h:n % (k+1)≠0∨Nat.gcd (k+1) N≠1):cosAt chi N n (k+1)=cosAt chi N n k:=by
 rw[cosAt,if_neg (λE=>by rcases h with h|h;exact h E.1;exact h E.2),List.append_nil]
def cosE (N k D n:Int):Int:=if check N k D≠0 then check N k D else if n<1∨128<n then 2 else 0
def cosL (chi:Nat->Int) (N k D n:Int):List Cos:=if cosE N k D n=0 then cosAt chi N.toNat n.toNat n.toNat else []
theorem check_ok {N k D:Int} (h:check N k D=0):(1<=N/\N<=120)/\(2<=k/\k<=24)/\(-120<=D/\D<=120)/\fund D=true/\N % D=0:=by
 unfold check at h;by_cases h1:N<1∨120<N∨k<2∨24<k∨D < -120∨120<D
 ·rw[if_pos h1]at h;cases h
 ·rw[if_neg h1]at h
  by_cases h2:fund D=false
  ·rw[if_pos h2]at h;cases h
  ·rw[if_neg h2]at h
   by_cases h3:N % D≠0
   ·rw[if_pos h3]at h;cases h
   ·refine⟨by omega,by omega,by omega,by simpa using h2,by omega⟩
theorem cosE_ok {N k D n:Int} (h:cosE N k D n=0):check N k D=0/\1<=n/\n<=128:=by
 unfold cosE at h;by_cases h1:check N k D≠0
 ·rw[if_pos h1]at h;exact absurd h h1
 ·rw[if_neg h1]at h
  by_cases h2:n<1∨128<n
  ·rw[if_pos h2]at h;cases h
  ·exact⟨by omega,by omega,by omega⟩
end Pl
end Go.Proofs.YtenlbhlllgppmaaGreatDoor
