/- The place of a pair by looking through the list, plain: it is what the table holds. -/
import Derived.Test.YtijgdhijdfgpfaaGreatDoorV28
import Derived.Test.YtijgdhijdfgpfaaGreatDoorV07
import Derived.Test.YtijgdhijdfgpfaaGreatDoorV06
import Derived.Test.YtijgdhijdfgpfaaGreatDoorV19
import Derived.Test.YtijgdhijdfgpfaaGreatDoorV22
import Derived.Test.YtijgdhijdfgpfaaGreatDoorV24
namespace Go.Proofs.YtijgdhijdfgpfaaGreatDoor
theorem plRow_miss {n l:Nat} {c:Int} {L:List Nat} {f:Nat→Nat×Int} {k:Nat}:∀ j,(∀ i,i<j→pmul n l (L.getD i 0)≠k)→plRow n l c L j f k=f k
 | 0,_=>rfl
 | j+1,h=>by
  rw[plRow,tset,if_neg (fun e=>h j (Nat.lt_succ_self _) e.symm)]
  exact plRow_miss j (fun i hi=>h i (by omega))
theorem plRow_hit {n l:Nat} {c:Int} {L:List Nat} {f:Nat→Nat×Int} {k i:Nat} (hk:pmul n l (L.getD i 0)=k):∀ j,i<j→(∀ i',i'<j→pmul n l (L.getD i' 0)=k→i'=i)→plRow n l c L j f k=(i,c)
 | 0,hi,_=>absurd hi (Nat.not_lt_zero _)
 | j+1,hi,h=>by
  rw[plRow,tset]
  by_cases e:k=pmul n l (L.getD j 0)
  ·rw[if_pos e,h j (Nat.lt_succ_self _) e.symm]
  ·rw[if_neg e]
   refine plRow_hit hk j ?_ (fun i' h1 h2=>h i' (by omega) h2)
   have:i≠j:=fun e2=>e (by rw[← e2,hk])
   omega
theorem pts_nodup {n:Nat} (hn:0<n):(pts n (n*n)).Nodup:=by
 rw[pts_filter hn _ (Nat.le_refl _)]
 exact List.nodup_range.filter _
theorem getD_mem {L:List Nat} {i:Nat} (hi:i<L.length):L.getD i 0∈L:=by
 rw[List.getD_eq_getElem?_getD,List.getElem?_eq_getElem hi]
 exact List.getElem_mem hi
theorem getD_inj {L:List Nat} (h:L.Nodup) {i j:Nat} (hi:i<L.length) (hj:j<L.length) (e:L.getD i 0=L.getD j 0):i=j:=by
 rw[List.getD_eq_getElem?_getD,List.getElem?_eq_getElem hi,List.getD_eq_getElem?_getD,List.getElem?_eq_getElem hj]at e
 exact(List.getElem_inj h).1 (by simpa using e)
theorem place_unique {n i j s t:Nat} (hn:0<n) (hi:i<(pts n (n*n)).length) (hj:j<(pts n (n*n)).length) (hs:pun n s=true) (ht:pun n t=true)
  (e:pmul n s ((pts n (n*n)).getD i 0)=pmul n t ((pts n (n*n)).getD j 0)):i=j∧s % n=t % n:=by
 have mi:=getD_mem hi
 have mj:=getD_mem hj
 have hik:=pts_lt mi
 obtain⟨r,_,_,ru,re⟩:=pmul_inv (k:=(pts n (n*n)).getD i 0) hik hs
 have h1:pmul n (r*t) ((pts n (n*n)).getD j 0)=(pts n (n*n)).getD i 0:=by rw[← pmul_comp hn,← e,re]
 have h2:=pts_unique mj mi (pun_mul ru ht) h1
 have hij:=getD_inj (pts_nodup hn) hi hj h2.symm
 subst hij
 exact⟨rfl,pmul_free hn (pts_ok mi).1 e⟩
theorem plAll_hit {n:Nat} {D:Int} {j s k:Nat} (hn:0<n) (hj:j<(pts n (n*n)).length) (h1:1≤s) (hsn:s≤n) (hu:pun n s=true) (e:pmul n s ((pts n (n*n)).getD j 0)=k):∀ m,s≤m→m≤n→plAll n D (pts n (n*n)) m k=(j,Pl.kroP D s)
 | 0,h,_=>by omega
 | m+1,h,hm=>by
  rw[plAll]
  by_cases hs:s=m+1
  ·subst hs
   rw[if_pos hu]
   exact plRow_hit e _ hj (fun i hi he=>(place_unique hn hi hj hu hu (he.trans e.symm)).1)
  ·have hrec:=plAll_hit hn hj h1 hsn hu e m (by omega) (by omega) (D:=D)
   split
   ·rename_i hu2
    rw[plRow_miss _ (fun i hi he=>?_)]
    ·exact hrec
    ·have h2:=(place_unique hn hi hj hu2 hu (he.trans e.symm)).2
     rcases Nat.lt_or_ge (m+1) n with h3|h3
     ·rw[Nat.mod_eq_of_lt h3,Nat.mod_eq_of_lt (by omega)]at h2
      omega
     ·obtain rfl:m+1=n:=by omega
      rw[Nat.mod_self,Nat.mod_eq_of_lt (by omega)]at h2
      omega
   ·exact hrec
theorem mvd_index (u v A C:Int) (n:Nat):(u*(A % n)+v*(C % n)) % n=(u*A+v*C) % n:=by
 rw[Int.add_emod,Int.mul_emod u (A % n),Int.mul_emod v (C % n),Int.emod_emod_of_dvd A (Int.dvd_refl _),Int.emod_emod_of_dvd C (Int.dvd_refl _),← Int.mul_emod,← Int.mul_emod,← Int.add_emod]
namespace Pl
def mask (l:List Int) (v:Int):Nat:=l.foldr (fun x n=>2*n+if x=v then 1 else 0) 0
def mulAt (d pos neg r s:Nat):Bool:=if Nat.testBit neg r==Nat.testBit neg s then Nat.testBit pos (r*s % d)else Nat.testBit neg (r*s % d)
def unitsL (d:Nat):List Nat:=(List.range d).filter fun r=>Nat.gcd r d==1
def mulCh (D:Int):Bool:=
 let d:=D.natAbs
 let t:=table D
 let pos:=mask t 1
 let neg:=mask t (-1)
 let us:=unitsL d
 us.all fun r=>(Nat.testBit pos r != Nat.testBit neg r)&&us.all fun s=>mulAt d pos neg r s
def mulRow (i:Nat):Bool:=(List.range 20).all fun j=>let D:Int:=((20*i+j:Nat):Int) - 120;!fund D||mulCh D
theorem mul0:mulRow 0=true:=by decide +kernel
theorem mul1:mulRow 1=true:=by decide +kernel
theorem mul2:mulRow 2=true:=by decide +kernel
theorem mul3:mulRow 3=true:=by decide +kernel
theorem mul4:mulRow 4=true:=by decide +kernel
theorem mul5:mulRow 5=true:=by decide +kernel
theorem mul6:mulRow 6=true:=by decide +kernel
theorem mul7:mulRow 7=true:=by decide +kernel
theorem mul8:mulRow 8=true:=by decide +kernel
theorem mul9:mulRow 9=true:=by decide +kernel
theorem mul10:mulRow 10=true:=by decide +kernel
theorem mul11:mulRow 11=true:=by decide +kernel
theorem mul12:mulRow 12=true:=by decide +kernel
theorem mulRow_all:∀ i,i<13→mulRow i=true
 | 0,_=>mul0|1,_=>mul1|2,_=>mul2|3,_=>mul3|4,_=>mul4|5,_=>mul5|6,_=>mul6|7,_=>mul7|8,_=>mul8|9,_=>mul9|10,_=>mul10|11,_=>mul11|12,_=>mul12
 | n+13,h=>absurd h (by omega)
theorem mul_at {D:Int} (h0:-120≤D) (h1:D≤120) (hf:fund D=true):mulCh D=true:=by
 have h:=mulRow_all ((D+120).toNat / 20) (by omega)
 unfold mulRow at h
 rw[List.all_eq_true]at h
 have h2:=h ((D+120).toNat % 20) (List.mem_range.2 (Nat.mod_lt _ (by omega)))
 rw[Nat.div_add_mod]at h2
 have e:(((D+120).toNat:Nat):Int) - 120=D:=by omega
 simp only[e,hf]at h2
 simpa using h2
theorem mask_bit (v:Int):∀ (l:List Int) (i:Nat),Nat.testBit (mask l v) i=decide (l[i]?=some v)
 | [],i=>by simp[mask]
 | x :: l,0=>by
  show Nat.testBit (2*mask l v+if x=v then 1 else 0) 0=_
  rw[Nat.testBit_zero]
  by_cases h:x=v
  ·simp[h]
  ·simp[h]
 | x :: l,i+1=>by
  show Nat.testBit (2*mask l v+if x=v then 1 else 0) (i+1)=_
  rw[Nat.testBit_succ,show(2*mask l v+if x=v then 1 else 0) / 2=mask l v by split <;> omega,mask_bit v l i]
  simp
theorem kro_mul {N:Nat} {D:Int} {a b c:Nat} (hN:0<N) (h0:-120≤D) (h1:D≤120) (hf:fund D=true) (hd:(N:Int) % D=0) (ha:0<a) (ha':a≤128) (hb:0<b) (hb':b≤128) (hc:0<c) (hc':c≤128) (ga:Nat.gcd a N=1) (gb:Nat.gcd b N=1) (gc:Nat.gcd c N=1) (h:a*b % N=c % N):
  kroP D c=kroP D a*kroP D b∧(kroP D a=1∨kroP D a=-1):=by
 have hdvd:D.natAbs∣N:=by
  have:D∣(N:Int):=Int.dvd_of_emod_eq_zero hd
  exact Int.natAbs_dvd_natAbs.2 this
 have hdp:0<D.natAbs:=Nat.pos_of_dvd_of_pos hdvd hN
 have hcop:∀ {x:Nat},Nat.gcd x N=1→Nat.gcd x D.natAbs=1:=fun hx=>Nat.eq_one_of_dvd_one (hx▸Nat.gcd_dvd_gcd_of_dvd_right _ hdvd)
 have hchk:=chk_at h0 h1 hf
 have hmul:=mul_at h0 h1 hf
 unfold chk at hchk
 simp only[Bool.and_eq_true,List.all_eq_true]at hchk
 have hval:∀ x:Nat,0<x→x≤128→Nat.gcd x N=1→(table D)[x % D.natAbs]?=some (kroP D x):=by
  intro x hx hx' hg
  have e2:=hchk.2 x (List.mem_range.2 (by omega))
  simp only[hcop hg,Bool.or_eq_true,decide_eq_true_eq,bne_self_eq_false,Bool.false_eq_true,or_false,beq_iff_eq]at e2
  have hl:x % D.natAbs<(table D).length:=by unfold table;simpa using Nat.mod_lt x hdp
  rcases e2 with e2|e2
  ·omega
  ·rw[List.getD_eq_getElem?_getD,List.getElem?_eq_getElem hl]at e2
   rw[List.getElem?_eq_getElem hl,e2];rfl
 have hmem:∀ x:Nat,Nat.gcd x N=1→x % D.natAbs∈unitsL D.natAbs:=fun x hg=>by
  unfold unitsL
  rw[List.mem_filter,List.mem_range]
  refine⟨Nat.mod_lt _ hdp,?_⟩
  rw[beq_iff_eq,← Nat.gcd_rec,Nat.gcd_comm];exact hcop hg
 unfold mulCh at hmul
 simp only[List.all_eq_true,Bool.and_eq_true]at hmul
 have hab:a % D.natAbs*(b % D.natAbs) % D.natAbs=c % D.natAbs:=by
  rw[← Nat.mul_mod,← Nat.mod_mod_of_dvd (a*b) hdvd,h,Nat.mod_mod_of_dvd _ hdvd]
 have m1:=(hmul _ (hmem a ga)).2 _ (hmem b gb)
 have u1:=(hmul _ (hmem a ga)).1
 have u2:=(hmul _ (hmem b gb)).1
 unfold mulAt at m1
 rw[hab]at m1
 simp only[mask_bit,hval a ha ha' ga,hval b hb hb' gb,hval c hc hc' gc,Option.some.injEq]at m1 u1 u2
 have s1:kroP D a=1∨kroP D a=-1:=by
  by_cases e:kroP D a=1
  ·exact .inl e
  ·by_cases e2:kroP D a=-1
   ·exact .inr e2
   ·simp[e,e2]at u1
 have s2:kroP D b=1∨kroP D b=-1:=by
  by_cases e:kroP D b=1
  ·exact .inl e
  ·by_cases e2:kroP D b=-1
   ·exact .inr e2
   ·simp[e,e2]at u2
 refine⟨?_,s1⟩
 rcases s1 with s1|s1 <;> rcases s2 with s2|s2 <;>(rw[s1,s2]at m1;simp at m1;rw[s1,s2,m1];rfl)
end Pl
end Go.Proofs.YtijgdhijdfgpfaaGreatDoor
namespace Go.Proofs.YtijgdhijdfgpfaaGreatDoor
open Eli
def linR (a b:Int) (p:Nat→Rat):Nat→Rat:=fun j=>(if 0<j then(a:Rat)*p (j - 1)else 0)+(b:Rat)*p j
theorem sumQ_swap (f:Nat→Nat→Rat) (n m:Nat):sumQ (fun i=>sumQ (fun l=>f i l) m) n=sumQ (fun l=>sumQ (fun i=>f i l) n) m:=by
 induction n with
 | zero=>exact(sumQ_zero (fun _ _=>rfl)).symm
 | succ n ih=>rw[sumQ,ih,← sumQ_add];exact sumQ_congr (fun _ _=>rfl)
theorem sumQ_front (f:Nat→Rat) (n:Nat):sumQ f (n+1)=f 0+sumQ (fun i=>f (i+1)) n:=by
 induction n with
 | zero=>show(0:Rat)+f 0=f 0+0;grind
 | succ n ih=>rw[sumQ,ih,sumQ];grind
theorem lin_comm (a b c d:Int) (p:Nat→Int):lin c d (lin a b p)=lin a b (lin c d p):=by
 funext j
 unfold lin
 by_cases h:0<j
 ·simp only[if_pos h]
  by_cases h1:0<j - 1
  ·simp only[if_pos h1];grind
  ·simp only[if_neg h1];grind
 ·simp only[if_neg h];grind
theorem mv_sat (a b c d:Int):∀ k i,k≤i→mv (i+1) a b c d k=mv i a b c d k
 | 0,_,_=>rfl
 | k+1,i,h=>by rw[mv,mv,if_pos (by omega),if_pos (by omega),mv_sat a b c d k i (by omega)]
theorem mv_up (a b c d:Int):∀ k i,i≤k→mv (i+1) a b c d (k+1)=lin a b (mv i a b c d k)
 | k,i,h=>by
  by_cases e:i=k
  ·subst e
   rw[mv,if_pos (by omega),mv_sat a b c d i i (Nat.le_refl _)]
  ·obtain⟨l,rfl⟩:∃ l,k=l+1:=⟨k - 1,by omega⟩
   rw[mv,if_neg (by omega),mv_up a b c d l i (by omega),mv,if_neg (by omega),lin_comm]
theorem mv_down {a b c d:Int} {k i:Nat} (h:i≤k):mv i a b c d (k+1)=lin c d (mv i a b c d k):=by
 rw[mv,if_neg (by omega)]
theorem cast_lin (a b:Int) (p:Nat→Int) (j:Nat):((lin a b p j:Int):Rat)=linR a b (fun i=>(p i:Rat)) j:=by
 unfold lin linR
 split <;> simp <;> grind
theorem linR_sum (a b:Int) (p:Nat→Rat) (f:Nat→Nat→Int) (n j:Nat):sumQ (fun i=>p i*linR a b (fun l=>(f i l:Rat)) j) n=linR a b (fun l=>sumQ (fun i=>p i*(f i l:Rat)) n) j:=by
 unfold linR
 by_cases h:0<j
 ·simp only[if_pos h]
  rw[← sumQ_mul,← sumQ_mul,← sumQ_add]
  exact sumQ_congr (fun i _=>by grind)
 ·simp only[if_neg h]
  rw[← sumQ_mul,Rat.zero_add]
  exact sumQ_congr (fun i _=>by grind)
theorem subst_lin (al be a b c d:Int) (p:Nat→Rat) (k j:Nat) (hp:p (k+1)=0):
  subst (linR al be p) (k+1) a b c d (k+2) j=linR (al*a+be*c) (al*b+be*d) (subst p k a b c d (k+1)) j:=by
 have e1:sumQ (fun i=>(if 0<i then(al:Rat)*p (i - 1)else 0)*(mv i a b c d (k+1) j:Int)) (k+2)=(al:Rat)*linR a b (subst p k a b c d (k+1)) j:=by
  rw[sumQ_front]
  simp only[Nat.lt_irrefl,if_false]
  unfold subst
  rw[← linR_sum a b p (fun i=>mv i a b c d k),← sumQ_mul,Rat.zero_mul,Rat.zero_add]
  refine sumQ_congr (fun i hi=>?_)
  rw[if_pos (by omega),mv_up a b c d k i (by omega),cast_lin,Nat.add_sub_cancel]
  grind
 have e2:sumQ (fun i=>(be:Rat)*p i*(mv i a b c d (k+1) j:Int)) (k+2)=(be:Rat)*linR c d (subst p k a b c d (k+1)) j:=by
  rw[sumQ,hp]
  unfold subst
  rw[← linR_sum c d p (fun i=>mv i a b c d k),← sumQ_mul]
  rw[show ∀ x:Rat,x+(be:Rat)*0*((mv (k+1) a b c d (k+1) j:Int):Rat)=x from fun x=>by grind]
  refine sumQ_congr (fun i hi=>?_)
  rw[mv_down (by omega),cast_lin]
  grind
 have e3:subst (linR al be p) (k+1) a b c d (k+2) j=(al:Rat)*linR a b (subst p k a b c d (k+1)) j+(be:Rat)*linR c d (subst p k a b c d (k+1)) j:=by
  rw[← e1,← e2,← sumQ_add]
  unfold subst
  refine sumQ_congr (fun i _=>?_)
  unfold linR
  grind
 rw[e3]
 unfold linR
 split <;> simp <;> grind
theorem subst_mv (a b c d a' b' c' d':Int) (i j:Nat):∀ k,subst (fun l=>(mv i a b c d k l:Rat)) k a' b' c' d' (k+1) j=(mv i (a*a'+b*c') (a*b'+b*d') (c*a'+d*c') (c*b'+d*d') k j:Rat):=by
 intro k
 induction k generalizing j with
 | zero=>
  show(0:Rat)+((if(0:Nat)=0 then 1 else 0:Int):Rat)*((if j=0 then 1 else 0:Int):Rat)=((if j=0 then 1 else 0:Int):Rat)
  split <;> simp <;> grind
 | succ k ih=>
  have hz:(fun l=>(mv i a b c d k l:Rat)) (k+1)=0:=by
   show((mv i a b c d k (k+1):Int):Rat)=0
   rw[mv_zero i a b c d k (k+1) (by omega)];rfl
  have hf:∀ al be,(fun l=>((lin al be (mv i a b c d k) l:Int):Rat))=linR al be (fun l=>(mv i a b c d k l:Rat)):=fun al be=>funext (fun l=>cast_lin al be _ l)
  by_cases h:k<i
  ·simp only[mv,if_pos h]
   rw[hf,subst_lin a b a' b' c' d' _ k j hz,cast_lin]
   unfold linR
   simp only[ih]
  ·simp only[mv,if_neg h]
   rw[hf,subst_lin c d a' b' c' d' _ k j hz,cast_lin]
   unfold linR
   simp only[ih]
theorem subst_subst (q:Nat→Rat) (a b c d a' b' c' d':Int) (m j:Nat):
  subst (subst q m a b c d (m+1)) m a' b' c' d' (m+1) j=subst q m (a*a'+b*c') (a*b'+b*d') (c*a'+d*c') (c*b'+d*d') (m+1) j:=by
 have h1:subst (subst q m a b c d (m+1)) m a' b' c' d' (m+1) j=sumQ (fun l=>sumQ (fun i=>q i*(mv i a b c d m l:Int)*(mv l a' b' c' d' m j:Int)) (m+1)) (m+1):=by
  unfold subst
  refine sumQ_congr (fun l _=>?_)
  rw[Rat.mul_comm,← sumQ_mul]
  exact sumQ_congr (fun i _=>by grind)
 rw[h1,← sumQ_swap]
 unfold subst
 refine sumQ_congr (fun i _=>?_)
 rw[← subst_mv a b c d a' b' c' d' i j m]
 unfold subst
 rw[← sumQ_mul]
 exact sumQ_congr (fun l _=>by grind)
def kIx (n:Nat) (u v:Int):Nat:=(u % n).toNat*n+(v % n).toNat
theorem kIx_div {n:Nat} (hn:0<n) (u v:Int):kIx n u v / n=(u % n).toNat:=by
 have h1:(v % n).toNat<n:=by have:=Int.emod_lt_of_pos v (show(0:Int)<n by omega);have:=Int.emod_nonneg v (show(n:Int)≠0 by omega);omega
 unfold kIx
 rw[Nat.mul_comm,Nat.mul_add_div hn,Nat.div_eq_of_lt h1,Nat.add_zero]
theorem kIx_mod {n:Nat} (hn:0<n) (u v:Int):kIx n u v % n=(v % n).toNat:=by
 have h1:(v % n).toNat<n:=by have:=Int.emod_lt_of_pos v (show(0:Int)<n by omega);have:=Int.emod_nonneg v (show(n:Int)≠0 by omega);omega
 unfold kIx
 rw[Nat.mul_comm,Nat.mul_add_mod,Nat.mod_eq_of_lt h1]
theorem kIx_lt {n:Nat} (hn:0<n) (u v:Int):kIx n u v<n*n:=by
 have h1:=Int.emod_lt_of_pos u (show(0:Int)<n by omega)
 have h2:=Int.emod_lt_of_pos v (show(0:Int)<n by omega)
 have h3:=Int.emod_nonneg u (show(n:Int)≠0 by omega)
 have h4:=Int.emod_nonneg v (show(n:Int)≠0 by omega)
 unfold kIx
 calc (u % n).toNat*n+(v % n).toNat<(u % n).toNat*n+n:=by omega
  _=((u % n).toNat+1)*n:=by rw[Nat.add_mul,Nat.one_mul]
  _≤n*n:=Nat.mul_le_mul_right _ (by omega)
theorem emod_scale {n s:Nat} {u u':Int} (hn:0<n) (h:u' % n=(s*u) % n):(u' % n).toNat=s*(u % n).toNat % n:=by
 have h3:=Int.emod_nonneg u (show(n:Int)≠0 by omega)
 have h4:=Int.emod_nonneg u' (show(n:Int)≠0 by omega)
 have h5:((s*(u % n).toNat % n:Nat):Int)=u' % n:=by
  push_cast
  rw[Int.toNat_of_nonneg h3,h,Int.mul_emod,Int.emod_emod,← Int.mul_emod]
 omega
theorem kIx_scale {n s:Nat} {u v u' v':Int} (hn:0<n) (hu:u' % n=(s*u) % n) (hv:v' % n=(s*v) % n):kIx n u' v'=pmul n s (kIx n u v):=by
 unfold pmul
 rw[kIx_div hn,kIx_mod hn,← emod_scale hn hu,← emod_scale hn hv];rfl
theorem prim_iff {n:Nat} (hn:0<n) {u v:Int}:pok n (kIx n u v)=true↔∀ g:Nat,(g:Int)∣u→(g:Int)∣v→g∣n→g=1:=by
 have h3:=Int.emod_nonneg u (show(n:Int)≠0 by omega)
 have h4:=Int.emod_nonneg v (show(n:Int)≠0 by omega)
 have key:∀ {g:Nat} {x:Int},g∣n→0≤x % n→(g∣(x % n).toNat↔(g:Int)∣x):=fun {g x} hg h=>by
  rw[← Int.natCast_dvd_natCast,Int.toNat_of_nonneg h]
  constructor
  ·intro hd
   rw[← Int.emod_add_mul_ediv x n]
   exact Int.dvd_add hd (Int.dvd_trans (Int.natCast_dvd_natCast.2 hg) (Int.dvd_mul_right _ _))
  ·intro hd
   rw[Int.emod_def]
   exact Int.dvd_sub hd (Int.dvd_trans (Int.natCast_dvd_natCast.2 hg) (Int.dvd_mul_right _ _))
 unfold pok
 rw[kIx_div hn,kIx_mod hn,beq_iff_eq]
 constructor
 ·intro h g h1 h2 h5
  have:g∣Nat.gcd (Nat.gcd (u % n).toNat (v % n).toNat) n:=Nat.dvd_gcd (Nat.dvd_gcd ((key h5 h3).2 h1) ((key h5 h4).2 h2)) h5
  rw[h]at this
  exact Nat.dvd_one.1 this
 ·intro h
  have d3:=Nat.gcd_dvd_right (Nat.gcd (u % n).toNat (v % n).toNat) n
  exact h _ ((key d3 h3).1 (Nat.dvd_trans (Nat.gcd_dvd_left _ _) (Nat.gcd_dvd_left _ _))) ((key d3 h4).1 (Nat.dvd_trans (Nat.gcd_dvd_left _ _) (Nat.gcd_dvd_right _ _))) d3
theorem place_ex {n k:Nat} (hn:0<n) (hk:k<n*n) (hp:pok n k=true):∃ j s,j<(pts n (n*n)).length∧1≤s∧s≤n∧pun n s=true∧pmul n s ((pts n (n*n)).getD j 0)=k:=by
 have fin:∀ a s,a∈pts n (n*n)→1≤s→s≤n→pun n s=true→pmul n s a=k→∃ j s,j<(pts n (n*n)).length∧1≤s∧s≤n∧pun n s=true∧pmul n s ((pts n (n*n)).getD j 0)=k:=fun a s ha h1 h2 h3 h4=>by
  obtain⟨j,hj,e⟩:=List.getElem_of_mem ha
  exact⟨j,s,hj,h1,h2,h3,by rw[List.getD_eq_getElem?_getD,List.getElem?_eq_getElem hj,e];exact h4⟩
 cases hs:pseen n (pts n k) k with
 | true=>
  obtain⟨a,ha,s,h1,h2,h3,h4⟩:=pseen_iff.1 hs
  exact fin a s (pts_grow (Nat.le_of_lt hk) ha) h1 h2 h3 h4
 | false=>exact fin k 1 (pts_grow hk (pts_new hp hs)) (by omega) hn (by simp[pun]) (pmul_one hk)
section
variable {n wt:Nat} {D:Int} (x:Nat→Rat)
def cP (n wt:Nat) (x:Nat→Rat) (p:Nat×Int) (P:Nat→Rat):Rat:=sumQ (fun i=>P i*(p.2:Rat)*x (i*(pts n (n*n)).length+p.1)) (wt+1)
theorem cP_sum {p:Nat×Int} (q:Nat→Rat) (f:Nat→Nat→Rat) (m:Nat):cP n wt x p (fun j=>sumQ (fun i=>q i*f i j) m)=sumQ (fun i=>q i*cP n wt x p (f i)) m:=by
 have h1:sumQ (fun i=>q i*cP n wt x p (f i)) m=sumQ (fun i=>sumQ (fun j=>q i*f i j*(p.2:Rat)*x (j*(pts n (n*n)).length+p.1)) (wt+1)) m:=sumQ_congr (fun i _=>by
  unfold cP
  rw[← sumQ_mul]
  exact sumQ_congr (fun j _=>by grind))
 rw[h1,sumQ_swap]
 unfold cP
 refine sumQ_congr (fun j _=>?_)
 rw[show sumQ (fun i=>q i*f i j) m*(p.2:Rat)*x (j*(pts n (n*n)).length+p.1)=((p.2:Rat)*x (j*(pts n (n*n)).length+p.1))*sumQ (fun i=>q i*f i j) m by grind,← sumQ_mul]
 exact sumQ_congr (fun i _=>by grind)
theorem cP_sign (j:Nat) (s t:Int) (P:Nat→Rat):cP n wt x (j,s*t) P=(s:Rat)*cP n wt x (j,t) P:=by
 unfold cP
 rw[← sumQ_mul]
 exact sumQ_congr (fun i _=>by push_cast;grind)
theorem sumQ_grid (g:Nat→Rat) (m:Nat):∀ w,sumQ g (w*m)=sumQ (fun i=>sumQ (fun j=>g (i*m+j)) m) w
 | 0=>by rw[Nat.zero_mul];rfl
 | w+1=>by
  have h:∀ b,sumQ g (w*m+b)=sumQ g (w*m)+sumQ (fun j=>g (w*m+j)) b:=by
   intro b
   induction b with
   | zero=>rw[Nat.add_zero];show _=_+(0:Rat);grind
   | succ b ih=>rw[← Nat.add_assoc,sumQ,ih,sumQ];grind
  rw[Nat.succ_mul,h m,sumQ,sumQ_grid g m w]
theorem mvd_sum {i j:Nat} {a b c d:Int} {p:Nat×Int} (hp:plcOf n D (((pts n (n*n)).getD j 0 / n:Nat)*a+((pts n (n*n)).getD j 0 % n:Nat)*c) (((pts n (n*n)).getD j 0 / n:Nat)*b+((pts n (n*n)).getD j 0 % n:Nat)*d)=p) (hpl:p.2≠0→p.1<(pts n (n*n)).length):
  sumQ (fun k=>(mvd n wt (pts n (n*n)) (plAll n D (pts n (n*n)) n) i j (a,b,c,d) k:Rat)*x k) ((wt+1)*(pts n (n*n)).length)=cP n wt x p (fun l=>(mv i a b c d wt l:Rat)):=by
 have hm:∀ k,mvd n wt (pts n (n*n)) (plAll n D (pts n (n*n)) n) i j (a,b,c,d) k=if p.2=0 then 0 else if k % (pts n (n*n)).length=p.1∧k / (pts n (n*n)).length≤wt then p.2*mv i a b c d wt (k / (pts n (n*n)).length)else 0:=by
  intro k
  unfold plcOf at hp
  unfold mvd
  simp only[mvd_index]
  rw[hp]
 rw[sumQ_grid]
 unfold cP
 refine sumQ_congr (fun l hl=>?_)
 by_cases h0:p.2=0
 ·rw[h0]
  rw[sumQ_zero (fun k _=>by rw[hm,if_pos h0];grind)]
  grind
 ·have hlt:=hpl h0
  have hpos:0<(pts n (n*n)).length:=by omega
  rw[sumQ_single hlt]
  ·rw[hm,if_neg h0,if_pos]
   ·rw[Nat.mul_comm l,Nat.mul_add_div hpos,Nat.div_eq_of_lt hlt,Nat.add_zero]
    push_cast
    grind
   ·rw[Nat.mul_comm l,Nat.mul_add_mod,Nat.mod_eq_of_lt hlt,Nat.mul_add_div hpos,Nat.div_eq_of_lt hlt]
    exact⟨rfl,by omega⟩
  ·intro k hk hne
   rw[hm,if_neg h0,if_neg]
   ·grind
   ·rw[Nat.mul_comm l,Nat.mul_add_mod,Nat.mod_eq_of_lt hk]
    exact fun h=>hne h.1
end
theorem prim_move {n:Nat} {u v a b c d:Int} (hn:0<n) (hp:pok n (kIx n u v)=true) (hd:a*d - b*c=1):pok n (kIx n (u*a+v*c) (u*b+v*d))=true:=by
 rw[prim_iff hn]at hp ⊢
 intro g h1 h2 h3
 refine hp g ?_ ?_ h3
 ·have e:u=d*(u*a+v*c) - c*(u*b+v*d):=by
   have:d*(u*a+v*c) - c*(u*b+v*d)=u*(a*d - b*c):=by grind
   rw[this,hd,Int.mul_one]
  rw[e]
  exact Int.dvd_sub (Int.dvd_trans h1 (Int.dvd_mul_left _ _)) (Int.dvd_trans h2 (Int.dvd_mul_left _ _))
 ·have e:v=a*(u*b+v*d) - b*(u*a+v*c):=by
   have:a*(u*b+v*d) - b*(u*a+v*c)=v*(a*d - b*c):=by grind
   rw[this,hd,Int.mul_one]
  rw[e]
  exact Int.dvd_sub (Int.dvd_trans h2 (Int.dvd_mul_left _ _)) (Int.dvd_trans h1 (Int.dvd_mul_left _ _))
theorem prim_gcd {n:Nat} {u v:Int} (hn:0<n) (h:Int.gcd u v=1):pok n (kIx n u v)=true:=by
 rw[prim_iff hn]
 intro g h1 h2 _
 have h3:g∣Int.gcd u v:=Int.dvd_gcd h1 h2
 rw[h]at h3
 exact Nat.dvd_one.1 h3
theorem plc_prim {n:Nat} {D u v:Int} (hn:0<n) (hp:pok n (kIx n u v)=true):∃ j s,j<(pts n (n*n)).length∧1≤s∧s≤n∧pun n s=true∧pmul n s ((pts n (n*n)).getD j 0)=kIx n u v∧plcOf n D u v=(j,Pl.kroP D s):=by
 obtain⟨j,s,h1,h2,h3,h4,h5⟩:=place_ex hn (kIx_lt hn u v) hp
 exact⟨j,s,h1,h2,h3,h4,h5,plAll_hit hn h1 h2 h3 h4 h5 n h3 (Nat.le_refl _)⟩
theorem plc_scale {n wt s:Nat} {D u v u' v':Int} (hck:Pl.check n ((wt:Int)+2) D=0) (hp:pok n (kIx n u v)=true) (h1:1≤s) (h2:s≤n) (hs:pun n s=true) (hu:u' % n=(s*u) % n) (hv:v' % n=(s*v) % n):
  plcOf n D u' v'=((plcOf n D u v).1,Pl.kroP D s*(plcOf n D u v).2):=by
 obtain⟨⟨a1,a2⟩,_,⟨a3,a4⟩,a5,a6⟩:=Pl.check_ok hck
 have hn:0<n:=by omega
 obtain⟨j,t,b1,b2,b3,b4,b5,b6⟩:=plc_prim (D:=D) hn hp
 obtain⟨r,c1,c2,c3,c4⟩:=pun_small hn (pun_mul hs b4)
 have e:pmul n r ((pts n (n*n)).getD j 0)=kIx n u' v':=by rw[kIx_scale hn hu hv,← b5,pmul_comp hn,pmul_congr c4]
 have hk:=Pl.kro_mul (N:=n) (D:=D) (a:=s) (b:=t) (c:=r) hn a3 a4 a5 a6 (by omega) (by omega) (by omega) (by omega) (by omega) (by omega) (by simpa [pun] using hs) (by simpa [pun] using b4) (by simpa [pun] using c3) c4.symm
 have h6:plcOf n D u' v'=(j,Pl.kroP D r):=plAll_hit hn b1 c1 c2 c3 e n c2 (Nat.le_refl _)
 rw[h6,b6,hk.1]
theorem plc_ne {n wt:Nat} {D u v:Int} (hck:Pl.check n ((wt:Int)+2) D=0) (hp:pok n (kIx n u v)=true):(plcOf n D u v).2≠0∧(plcOf n D u v).1<(pts n (n*n)).length:=by
 obtain⟨⟨a1,a2⟩,_,⟨a3,a4⟩,a5,a6⟩:=Pl.check_ok hck
 have hn:0<n:=by omega
 obtain⟨j,t,b1,b2,b3,b4,b5,b6⟩:=plc_prim (D:=D) hn hp
 obtain⟨r,c1,c2,c3,c4⟩:=pun_small hn (pun_mul b4 b4)
 have hk:=Pl.kro_mul (N:=n) (D:=D) (a:=t) (b:=t) (c:=r) hn a3 a4 a5 a6 (by omega) (by omega) (by omega) (by omega) (by omega) (by omega) (by simpa [pun] using b4) (by simpa [pun] using b4) (by simpa [pun] using c3) c4.symm
 rw[b6]
 exact⟨by rcases hk.2 with h|h <;>(dsimp only;rw[h];decide),b1⟩
def RelZ (n wt:Nat) (D:Int) (x:Nat→Rat):Prop:=∀ r,r<2*((wt+1)*(pts n (n*n)).length)→sumQ (fun k=>(relOf n wt D r k:Rat)*x k) ((wt+1)*(pts n (n*n)).length)=0
theorem one_sum {n wt:Nat} {x:Nat→Rat} {r:Nat} (hr:r<(wt+1)*(pts n (n*n)).length):sumQ (fun k=>((if k=r then 1 else 0:Int):Rat)*x k) ((wt+1)*(pts n (n*n)).length)=x r:=by
 rw[sumQ_single hr]
 ·rw[if_pos rfl];push_cast;grind
 ·intro i _ h;rw[if_neg h];push_cast;grind
theorem pt_pair {n j:Nat} (hn:0<n) (hj:j<(pts n (n*n)).length):kIx n ((pts n (n*n)).getD j 0 / n:Nat) ((pts n (n*n)).getD j 0 % n:Nat)=(pts n (n*n)).getD j 0∧pok n (kIx n ((pts n (n*n)).getD j 0 / n:Nat) ((pts n (n*n)).getD j 0 % n:Nat))=true:=by
 have hm:=getD_mem hj
 have hlt:=pts_lt hm
 have e:kIx n ((pts n (n*n)).getD j 0 / n:Nat) ((pts n (n*n)).getD j 0 % n:Nat)=(pts n (n*n)).getD j 0:=by
  have h1:(pts n (n*n)).getD j 0 / n<n:=Nat.div_lt_of_lt_mul hlt
  have h2:(pts n (n*n)).getD j 0 % n<n:=Nat.mod_lt _ hn
  have h5:∀ z:Nat,z<n→(((z:Nat):Int) % n).toNat=z:=fun z hz=>by rw[Int.emod_eq_of_lt (by omega) (by omega)];omega
  have h3:=h5 _ h1
  have h4:=h5 _ h2
  unfold kIx
  rw[h3,h4,Nat.mul_comm,Nat.div_add_mod]
 exact⟨e,by rw[e];exact(pts_ok hm).1⟩
theorem sub_eq {P:Nat→Rat} {wt:Nat} {a b c d:Int}:(fun l=>sumQ (fun i=>P i*(mv i a b c d wt l:Rat)) (wt+1))=subst P wt a b c d (wt+1):=rfl
theorem turn_pt {n wt:Nat} {D:Int} {x:Nat→Rat} (hck:Pl.check n ((wt:Int)+2) D=0) (hR:RelZ n wt D x) {j:Nat} (hj:j<(pts n (n*n)).length) (P:Nat→Rat):
  cP n wt x (j,1) P+cP n wt x (plcOf n D (((pts n (n*n)).getD j 0 / n:Nat)*0+((pts n (n*n)).getD j 0 % n:Nat)*1) (((pts n (n*n)).getD j 0 / n:Nat)*(-1)+((pts n (n*n)).getD j 0 % n:Nat)*0)) (subst P wt 0 (-1) 1 0 (wt+1))=0:=by
 obtain⟨⟨a1,a2⟩,_,⟨a3,a4⟩,a5,a6⟩:=Pl.check_ok hck
 have hn:0<n:=by omega
 have hpr:=(pt_pair hn hj).2
 have g1:=plc_ne hck (prim_move (a:=0) (b:=-1) (c:=1) (d:=0) hn hpr (by decide))
 have hrow:∀ i,i<wt+1→x (i*(pts n (n*n)).length+j)+cP n wt x (plcOf n D (((pts n (n*n)).getD j 0 / n:Nat)*0+((pts n (n*n)).getD j 0 % n:Nat)*1) (((pts n (n*n)).getD j 0 / n:Nat)*(-1)+((pts n (n*n)).getD j 0 % n:Nat)*0)) (fun l=>(mv i 0 (-1) 1 0 wt l:Rat))=0:=by
  intro i hi
  have hlt:i*(pts n (n*n)).length+j<(wt+1)*(pts n (n*n)).length:=by
   have h7:=Nat.mul_le_mul_right (pts n (n*n)).length (show i+1≤wt+1 by omega)
   rw[Nat.succ_mul]at h7
   omega
  have h:=hR (i*(pts n (n*n)).length+j) (by omega)
  have hs:=mvd_sum (wt:=wt) (D:=D) x (i:=i) (j:=j) (a:=0) (b:=-1) (c:=1) (d:=0) rfl (fun _=>g1.2)
  rw[← hs,← one_sum (x:=x) hlt,← sumQ_add,← h]
  refine sumQ_congr (fun k _=>?_)
  unfold relOf relE
  rw[if_pos hlt,Nat.mul_comm i,Nat.mul_add_div (by omega),Nat.div_eq_of_lt hj,Nat.add_zero,Nat.mul_add_mod,Nat.mod_eq_of_lt hj]
  unfold gTurn
  push_cast
  grind
 rw[← sub_eq,cP_sum]
 unfold cP at hrow ⊢
 rw[← sumQ_add]
 refine sumQ_zero (fun i hi=>?_)
 have h:=hrow i hi
 dsimp only
 generalize sumQ _ (wt+1)=z at h ⊢
 push_cast
 grind
theorem third_pt {n wt:Nat} {D:Int} {x:Nat→Rat} (hck:Pl.check n ((wt:Int)+2) D=0) (hR:RelZ n wt D x) {j:Nat} (hj:j<(pts n (n*n)).length) (P:Nat→Rat):
  cP n wt x (j,1) P+cP n wt x (plcOf n D (((pts n (n*n)).getD j 0 / n:Nat)*0+((pts n (n*n)).getD j 0 % n:Nat)*1) (((pts n (n*n)).getD j 0 / n:Nat)*(-1)+((pts n (n*n)).getD j 0 % n:Nat)*(-1))) (subst P wt 0 (-1) 1 (-1) (wt+1))
   + cP n wt x (plcOf n D (((pts n (n*n)).getD j 0 / n:Nat)*(-1)+((pts n (n*n)).getD j 0 % n:Nat)*(-1)) (((pts n (n*n)).getD j 0 / n:Nat)*1+((pts n (n*n)).getD j 0 % n:Nat)*0)) (subst P wt (-1) 1 (-1) 0 (wt+1))=0:=by
 obtain⟨⟨a1,a2⟩,_,⟨a3,a4⟩,a5,a6⟩:=Pl.check_ok hck
 have hn:0<n:=by omega
 have hpr:=(pt_pair hn hj).2
 have g1:=plc_ne hck (prim_move (a:=0) (b:=-1) (c:=1) (d:=-1) hn hpr (by decide))
 have g2:=plc_ne hck (prim_move (a:=-1) (b:=1) (c:=-1) (d:=0) hn hpr (by decide))
 have hrow:∀ i,i<wt+1→x (i*(pts n (n*n)).length+j)+cP n wt x (plcOf n D (((pts n (n*n)).getD j 0 / n:Nat)*0+((pts n (n*n)).getD j 0 % n:Nat)*1) (((pts n (n*n)).getD j 0 / n:Nat)*(-1)+((pts n (n*n)).getD j 0 % n:Nat)*(-1))) (fun l=>(mv i 0 (-1) 1 (-1) wt l:Rat))
   + cP n wt x (plcOf n D (((pts n (n*n)).getD j 0 / n:Nat)*(-1)+((pts n (n*n)).getD j 0 % n:Nat)*(-1)) (((pts n (n*n)).getD j 0 / n:Nat)*1+((pts n (n*n)).getD j 0 % n:Nat)*0)) (fun l=>(mv i (-1) 1 (-1) 0 wt l:Rat))=0:=by
  intro i hi
  have hlt:i*(pts n (n*n)).length+j<(wt+1)*(pts n (n*n)).length:=by
   have h7:=Nat.mul_le_mul_right (pts n (n*n)).length (show i+1≤wt+1 by omega)
   rw[Nat.succ_mul]at h7
   omega
  have h:=hR ((wt+1)*(pts n (n*n)).length+(i*(pts n (n*n)).length+j)) (by omega)
  have hs:=mvd_sum (wt:=wt) (D:=D) x (i:=i) (j:=j) (a:=0) (b:=-1) (c:=1) (d:=-1) rfl (fun _=>g1.2)
  have hs2:=mvd_sum (wt:=wt) (D:=D) x (i:=i) (j:=j) (a:=-1) (b:=1) (c:=-1) (d:=0) rfl (fun _=>g2.2)
  rw[← hs,← hs2,← one_sum (x:=x) hlt,← sumQ_add,← sumQ_add,← h]
  refine sumQ_congr (fun k _=>?_)
  unfold relOf relE
  rw[if_neg (show ¬ ((wt+1)*(pts n (n*n)).length+(i*(pts n (n*n)).length+j)<(wt+1)*(pts n (n*n)).length)by omega),Nat.add_sub_cancel_left,Nat.mul_comm i,Nat.mul_add_div (by omega),Nat.div_eq_of_lt hj,Nat.add_zero,Nat.mul_add_mod,Nat.mod_eq_of_lt hj]
  unfold gThird gTwice
  push_cast
  grind
 rw[← sub_eq,← sub_eq,cP_sum,cP_sum]
 unfold cP at hrow ⊢
 rw[← sumQ_add,← sumQ_add]
 refine sumQ_zero (fun i hi=>?_)
 have h:=hrow i hi
 dsimp only
 generalize sumQ _ (wt+1)=z at h ⊢
 generalize sumQ _ (wt+1)=z2 at h ⊢
 push_cast
 grind
theorem plc_moved {n wt:Nat} {D u v:Int} (hck:Pl.check n ((wt:Int)+2) D=0) (hp:pok n (kIx n u v)=true):∃ (j:Nat) (e:Int),j<(pts n (n*n)).length∧plcOf n D u v=(j,e*1)∧∀ a b c d:Int,a*d - b*c=1 →
  plcOf n D (u*a+v*c) (u*b+v*d)=((plcOf n D (((pts n (n*n)).getD j 0 / n:Nat)*a+((pts n (n*n)).getD j 0 % n:Nat)*c) (((pts n (n*n)).getD j 0 / n:Nat)*b+((pts n (n*n)).getD j 0 % n:Nat)*d)).1,e*(plcOf n D (((pts n (n*n)).getD j 0 / n:Nat)*a+((pts n (n*n)).getD j 0 % n:Nat)*c) (((pts n (n*n)).getD j 0 / n:Nat)*b+((pts n (n*n)).getD j 0 % n:Nat)*d)).2):=by
 obtain⟨⟨a1,a2⟩,_,⟨a3,a4⟩,a5,a6⟩:=Pl.check_ok hck
 have hn:0<n:=by omega
 obtain⟨j,s,b1,b2,b3,b4,b5,b6⟩:=plc_prim (D:=D) hn hp
 have hpp:=pt_pair hn b1
 have hu:u % n=(s*((pts n (n*n)).getD j 0 / n:Nat)) % n:=by
  have h:pmul n s ((pts n (n*n)).getD j 0) / n=kIx n u v / n:=by rw[b5]
  rw[pmul_div hn,kIx_div hn]at h
  have h3:=Int.emod_nonneg u (show(n:Int)≠0 by omega)
  have h4:((s*((pts n (n*n)).getD j 0 / n) % n:Nat):Int)=u % n:=by omega
  rw[← h4];push_cast;rfl
 have hv:v % n=(s*((pts n (n*n)).getD j 0 % n:Nat)) % n:=by
  have h:pmul n s ((pts n (n*n)).getD j 0) % n=kIx n u v % n:=by rw[b5]
  rw[pmul_mod,kIx_mod hn]at h
  have h3:=Int.emod_nonneg v (show(n:Int)≠0 by omega)
  have h4:((s*((pts n (n*n)).getD j 0 % n) % n:Nat):Int)=v % n:=by omega
  rw[← h4];push_cast;rfl
 have comb:∀ a c:Int,(u*a+v*c) % n=(s*(((pts n (n*n)).getD j 0 / n:Nat)*a+((pts n (n*n)).getD j 0 % n:Nat)*c)) % n:=fun a c=>by
  rw[Int.mul_add,← Int.mul_assoc,← Int.mul_assoc,Int.add_emod,Int.mul_emod u,Int.mul_emod v,hu,hv,← Int.mul_emod,← Int.mul_emod,← Int.add_emod]
 refine⟨j,Pl.kroP D s,b1,by rw[Int.mul_one];exact b6,fun a b c d hd=>?_⟩
 exact plc_scale hck (prim_move hn hpp.2 hd) b2 b3 b4 (comb a c) (comb b d)
theorem cP_scale {n wt:Nat} {x:Nat→Rat} {e:Int} (p:Nat×Int) (P:Nat→Rat):cP n wt x (p.1,e*p.2) P=(e:Rat)*cP n wt x p P:=cP_sign x p.1 e p.2 P
theorem rel_turn {n wt:Nat} {D:Int} {x:Nat→Rat} (hck:Pl.check n ((wt:Int)+2) D=0) (hR:RelZ n wt D x) {u v:Int} (hp:pok n (kIx n u v)=true) (P:Nat→Rat):
  cP n wt x (plcOf n D u v) P+cP n wt x (plcOf n D v (-u)) (subst P wt 0 (-1) 1 0 (wt+1))=0:=by
 obtain⟨j,e,hj,h1,h2⟩:=plc_moved hck hp
 have h3:=h2 0 (-1) 1 0 (by decide)
 rw[show u*0+v*1=v by omega,show u*(-1)+v*0=-u by omega]at h3
 rw[h1,h3,cP_scale,cP_sign,← Rat.mul_add,turn_pt hck hR hj P,Rat.mul_zero]
theorem rel_third {n wt:Nat} {D:Int} {x:Nat→Rat} (hck:Pl.check n ((wt:Int)+2) D=0) (hR:RelZ n wt D x) {u v:Int} (hp:pok n (kIx n u v)=true) (P:Nat→Rat):
  cP n wt x (plcOf n D u v) P+cP n wt x (plcOf n D v (-u - v)) (subst P wt 0 (-1) 1 (-1) (wt+1))+cP n wt x (plcOf n D (-u - v) u) (subst P wt (-1) 1 (-1) 0 (wt+1))=0:=by
 obtain⟨j,e,hj,h1,h2⟩:=plc_moved hck hp
 have h3:=h2 0 (-1) 1 (-1) (by decide)
 have h4:=h2 (-1) 1 (-1) 0 (by decide)
 rw[show u*0+v*1=v by omega,show u*(-1)+v*(-1)=-u - v by omega]at h3
 rw[show u*(-1)+v*(-1)=-u - v by omega,show u*1+v*0=u by omega]at h4
 rw[h1,h3,h4,cP_scale,cP_scale,cP_sign,← Rat.mul_add,← Rat.mul_add,third_pt hck hR hj P,Rat.mul_zero]
end Go.Proofs.YtijgdhijdfgpfaaGreatDoor
