/- The two programs' characters agree: a finite look, by the kernel. -/
import Derived.Test.YtenlbhlllgppmaaGreatDoorK02
namespace Go.Proofs.YtenlbhlllgppmaaGreatDoor.Pl
def table (D:Int):List Int:=(List.range D.natAbs).map fun r=>kroP D (r+D.natAbs)
def chk (D:Int):Bool:=
 let t:=table D
 (List.range 241).all (fun x=>decide (x=0)||(Nat.gcd x D.natAbs != 1)||(kroR D x==t.getD (x % D.natAbs) 5))&&(List.range 129).all (fun a=>decide (a=0)||(Nat.gcd a D.natAbs != 1)||(kroP D a==t.getD (a % D.natAbs) 5))
def chkRow (i:Nat):Bool:=(List.range 20).all fun j=>let D:Int:=((20*i+j:Nat):Int) - 120;!fund D||chk D
theorem chk0:chkRow 0=true:=by decide +kernel
theorem chk1:chkRow 1=true:=by decide +kernel
theorem chk2:chkRow 2=true:=by decide +kernel
theorem chk3:chkRow 3=true:=by decide +kernel
theorem chk4:chkRow 4=true:=by decide +kernel
theorem chk5:chkRow 5=true:=by decide +kernel
theorem chk6:chkRow 6=true:=by decide +kernel
theorem chk7:chkRow 7=true:=by decide +kernel
theorem chk8:chkRow 8=true:=by decide +kernel
theorem chk9:chkRow 9=true:=by decide +kernel
theorem chk10:chkRow 10=true:=by decide +kernel
theorem chk11:chkRow 11=true:=by decide +kernel
theorem chk12:chkRow 12=true:=by decide +kernel
theorem chkRow_all:∀ i,i<13→chkRow i=true
 | 0,_=>chk0|1,_=>chk1|2,_=>chk2|3,_=>chk3|4,_=>chk4|5,_=>chk5|6,_=>chk6|7,_=>chk7|8,_=>chk8|9,_=>chk9|10,_=>chk10|11,_=>chk11|12,_=>chk12
 | n+13,h=>absurd h (by omega)
theorem chk_at {D:Int} (h0:-120≤D) (h1:D≤120) (hf:fund D=true):chk D=true:=by
 have h:=chkRow_all ((D+120).toNat / 20) (by omega)
 unfold chkRow at h
 rw[List.all_eq_true]at h
 have h2:=h ((D+120).toNat % 20) (List.mem_range.2 (Nat.mod_lt _ (by omega)))
 rw[Nat.div_add_mod]at h2
 have e:(((D+120).toNat:Nat):Int) - 120=D:=by omega
 simp only[e,hf]at h2
 simpa using h2
end Go.Proofs.YtenlbhlllgppmaaGreatDoor.Pl
