/- The relations between the classes of symbols, for all polynomials and pairs. No program in sight. -/
import Derived.Test.YtijgdhijdfgpfaaGreatDoorZ39
import Derived.Test.YtijgdhijdfgpfaaGreatDoorZ24
namespace Go.Proofs.YtijgdhijdfgpfaaGreatDoor
open Eli
def kIx (n:Nat) (u v:Int):Nat:=(u % n).toNat*n+(v % n).toNat
theorem kIx_div {n:Nat} (hn:0<n) (u v:Int):kIx n u v / n=(u % n).toNat:=by
 have h1:(v % n).toNat<n:=by have:=Int.emod_lt_of_pos v (show(0:Int)<n by omega);have:=Int.emod_nonneg v (show(n:Int)≠0 by omega);omega
 unfold kIx
 rw[Nat.mul_comm,Nat.mul_add_div hn,Nat.div_eq_of_lt h1,Nat.add_zero]
theorem kIx_mod {n:Nat} (hn:0<n) (u v:Int):kIx n u v % n=(v % n).toNat:=by
 have h1:(v % n).toNat<n:=by have:=Int.emod_lt_of_pos v (show(0:Int)<n by omega);have:=Int.emod_nonneg v (show(n:Int)≠0 by omega);omega
 unfold kIx
 rw[Nat.mul_comm,Nat.mul_add_mod,Nat.mod_eq_of_lt h1]
theorem kIx_lt {n:Nat} (hn:0<n) (u v:Int):kIx n u v<n*n:=by
 have h1:=Int.emod_lt_of_pos u (show(0:Int)<n by omega)
 have h2:=Int.emod_lt_of_pos v (show(0:Int)<n by omega)
 have h3:=Int.emod_nonneg u (show(n:Int)≠0 by omega)
 have h4:=Int.emod_nonneg v (show(n:Int)≠0 by omega)
 unfold kIx
 calc (u % n).toNat*n+(v % n).toNat<(u % n).toNat*n+n:=by omega
  _=((u % n).toNat+1)*n:=by rw[Nat.add_mul,Nat.one_mul]
  _≤n*n:=Nat.mul_le_mul_right _ (by omega)
theorem emod_scale {n s:Nat} {u u':Int} (hn:0<n) (h:u' % n=(s*u) % n):(u' % n).toNat=s*(u % n).toNat % n:=by
 have h3:=Int.emod_nonneg u (show(n:Int)≠0 by omega)
 have h4:=Int.emod_nonneg u' (show(n:Int)≠0 by omega)
 have h5:((s*(u % n).toNat % n:Nat):Int)=u' % n:=by
  push_cast
  rw[Int.toNat_of_nonneg h3,h,Int.mul_emod,Int.emod_emod,← Int.mul_emod]
 omega
theorem kIx_scale {n s:Nat} {u v u' v':Int} (hn:0<n) (hu:u' % n=(s*u) % n) (hv:v' % n=(s*v) % n):kIx n u' v'=pmul n s (kIx n u v):=by
 unfold pmul
 rw[kIx_div hn,kIx_mod hn,← emod_scale hn hu,← emod_scale hn hv];rfl
theorem prim_iff {n:Nat} (hn:0<n) {u v:Int}:pok n (kIx n u v)=true↔∀ g:Nat,(g:Int)∣u→(g:Int)∣v→g∣n→g=1:=by
 have h3:=Int.emod_nonneg u (show(n:Int)≠0 by omega)
 have h4:=Int.emod_nonneg v (show(n:Int)≠0 by omega)
 have key:∀ {g:Nat} {x:Int},g∣n→0≤x % n→(g∣(x % n).toNat↔(g:Int)∣x):=fun {g x} hg h=>by
  rw[← Int.natCast_dvd_natCast,Int.toNat_of_nonneg h]
  constructor
  ·intro hd
   rw[← Int.emod_add_mul_ediv x n]
   exact Int.dvd_add hd (Int.dvd_trans (Int.natCast_dvd_natCast.2 hg) (Int.dvd_mul_right _ _))
  ·intro hd
   rw[Int.emod_def]
   exact Int.dvd_sub hd (Int.dvd_trans (Int.natCast_dvd_natCast.2 hg) (Int.dvd_mul_right _ _))
 unfold pok
 rw[kIx_div hn,kIx_mod hn,beq_iff_eq]
 constructor
 ·intro h g h1 h2 h5
  have:g∣Nat.gcd (Nat.gcd (u % n).toNat (v % n).toNat) n:=Nat.dvd_gcd (Nat.dvd_gcd ((key h5 h3).2 h1) ((key h5 h4).2 h2)) h5
  rw[h]at this
  exact Nat.dvd_one.1 this
 ·intro h
  have d3:=Nat.gcd_dvd_right (Nat.gcd (u % n).toNat (v % n).toNat) n
  exact h _ ((key d3 h3).1 (Nat.dvd_trans (Nat.gcd_dvd_left _ _) (Nat.gcd_dvd_left _ _))) ((key d3 h4).1 (Nat.dvd_trans (Nat.gcd_dvd_left _ _) (Nat.gcd_dvd_right _ _))) d3
theorem place_ex {n k:Nat} (hn:0<n) (hk:k<n*n) (hp:pok n k=true):∃ j s,j<(pts n (n*n)).length∧1≤s∧s≤n∧pun n s=true∧pmul n s ((pts n (n*n)).getD j 0)=k:=by
 have fin:∀ a s,a∈pts n (n*n)→1≤s→s≤n→pun n s=true→pmul n s a=k→∃ j s,j<(pts n (n*n)).length∧1≤s∧s≤n∧pun n s=true∧pmul n s ((pts n (n*n)).getD j 0)=k:=fun a s ha h1 h2 h3 h4=>by
  obtain⟨j,hj,e⟩:=List.getElem_of_mem ha
  exact⟨j,s,hj,h1,h2,h3,by rw[List.getD_eq_getElem?_getD,List.getElem?_eq_getElem hj,e];exact h4⟩
 cases hs:pseen n (pts n k) k with
 | true=>
  obtain⟨a,ha,s,h1,h2,h3,h4⟩:=pseen_iff.1 hs
  exact fin a s (pts_grow (Nat.le_of_lt hk) ha) h1 h2 h3 h4
 | false=>exact fin k 1 (pts_grow hk (pts_new hp hs)) (by omega) hn (by simp[pun]) (pmul_one hk)
section
variable {n wt:Nat} {D:Int} (x:Nat→Rat)
def cP (n wt:Nat) (x:Nat→Rat) (p:Nat×Int) (P:Nat→Rat):Rat:=sumQ (fun i=>P i*(p.2:Rat)*x (i*(pts n (n*n)).length+p.1)) (wt+1)
theorem cP_sum {p:Nat×Int} (q:Nat→Rat) (f:Nat→Nat→Rat) (m:Nat):cP n wt x p (fun j=>sumQ (fun i=>q i*f i j) m)=sumQ (fun i=>q i*cP n wt x p (f i)) m:=by
 have h1:sumQ (fun i=>q i*cP n wt x p (f i)) m=sumQ (fun i=>sumQ (fun j=>q i*f i j*(p.2:Rat)*x (j*(pts n (n*n)).length+p.1)) (wt+1)) m:=sumQ_congr (fun i _=>by
  unfold cP
  rw[← sumQ_mul]
  exact sumQ_congr (fun j _=>by grind))
 rw[h1,sumQ_swap]
 unfold cP
 refine sumQ_congr (fun j _=>?_)
 rw[show sumQ (fun i=>q i*f i j) m*(p.2:Rat)*x (j*(pts n (n*n)).length+p.1)=((p.2:Rat)*x (j*(pts n (n*n)).length+p.1))*sumQ (fun i=>q i*f i j) m by grind,← sumQ_mul]
 exact sumQ_congr (fun i _=>by grind)
theorem cP_sign (j:Nat) (s t:Int) (P:Nat→Rat):cP n wt x (j,s*t) P=(s:Rat)*cP n wt x (j,t) P:=by
 unfold cP
 rw[← sumQ_mul]
 exact sumQ_congr (fun i _=>by push_cast;grind)
theorem sumQ_grid (g:Nat→Rat) (m:Nat):∀ w,sumQ g (w*m)=sumQ (fun i=>sumQ (fun j=>g (i*m+j)) m) w
 | 0=>by rw[Nat.zero_mul];rfl
 | w+1=>by
  have h:∀ b,sumQ g (w*m+b)=sumQ g (w*m)+sumQ (fun j=>g (w*m+j)) b:=by
   intro b
   induction b with
   | zero=>rw[Nat.add_zero];show _=_+(0:Rat);grind
   | succ b ih=>rw[← Nat.add_assoc,sumQ,ih,sumQ];grind
  rw[Nat.succ_mul,h m,sumQ,sumQ_grid g m w]
theorem mvd_sum {i j:Nat} {a b c d:Int} {p:Nat×Int} (hp:plcOf n D (((pts n (n*n)).getD j 0 / n:Nat)*a+((pts n (n*n)).getD j 0 % n:Nat)*c) (((pts n (n*n)).getD j 0 / n:Nat)*b+((pts n (n*n)).getD j 0 % n:Nat)*d)=p) (hpl:p.2≠0→p.1<(pts n (n*n)).length):
  sumQ (fun k=>(mvd n wt (pts n (n*n)) (plAll n D (pts n (n*n)) n) i j (a,b,c,d) k:Rat)*x k) ((wt+1)*(pts n (n*n)).length)=cP n wt x p (fun l=>(mv i a b c d wt l:Rat)):=by
 have hm:∀ k,mvd n wt (pts n (n*n)) (plAll n D (pts n (n*n)) n) i j (a,b,c,d) k=if p.2=0 then 0 else if k % (pts n (n*n)).length=p.1∧k / (pts n (n*n)).length≤wt then p.2*mv i a b c d wt (k / (pts n (n*n)).length)else 0:=by
  intro k
  unfold plcOf at hp
  unfold mvd
  simp only[mvd_index]
  rw[hp]
 rw[sumQ_grid]
 unfold cP
 refine sumQ_congr (fun l hl=>?_)
 by_cases h0:p.2=0
 ·rw[h0]
  rw[sumQ_zero (fun k _=>by rw[hm,if_pos h0];grind)]
  grind
 ·have hlt:=hpl h0
  have hpos:0<(pts n (n*n)).length:=by omega
  rw[sumQ_single hlt]
  ·rw[hm,if_neg h0,if_pos]
   ·rw[Nat.mul_comm l,Nat.mul_add_div hpos,Nat.div_eq_of_lt hlt,Nat.add_zero]
    push_cast
    grind
   ·rw[Nat.mul_comm l,Nat.mul_add_mod,Nat.mod_eq_of_lt hlt,Nat.mul_add_div hpos,Nat.div_eq_of_lt hlt]
    exact⟨rfl,by omega⟩
  ·intro k hk hne
   rw[hm,if_neg h0,if_neg]
   ·grind
   ·rw[Nat.mul_comm l,Nat.mul_add_mod,Nat.mod_eq_of_lt hk]
    exact fun h=>hne h.1
end
theorem prim_move {n:Nat} {u v a b c d:Int} (hn:0<n) (hp:pok n (kIx n u v)=true) (hd:a*d - b*c=1):pok n (kIx n (u*a+v*c) (u*b+v*d))=true:=by
 rw[prim_iff hn]at hp ⊢
 intro g h1 h2 h3
 refine hp g ?_ ?_ h3
 ·have e:u=d*(u*a+v*c) - c*(u*b+v*d):=by
   have:d*(u*a+v*c) - c*(u*b+v*d)=u*(a*d - b*c):=by grind
   rw[this,hd,Int.mul_one]
  rw[e]
  exact Int.dvd_sub (Int.dvd_trans h1 (Int.dvd_mul_left _ _)) (Int.dvd_trans h2 (Int.dvd_mul_left _ _))
 ·have e:v=a*(u*b+v*d) - b*(u*a+v*c):=by
   have:a*(u*b+v*d) - b*(u*a+v*c)=v*(a*d - b*c):=by grind
   rw[this,hd,Int.mul_one]
  rw[e]
  exact Int.dvd_sub (Int.dvd_trans h2 (Int.dvd_mul_left _ _)) (Int.dvd_trans h1 (Int.dvd_mul_left _ _))
theorem prim_gcd {n:Nat} {u v:Int} (hn:0<n) (h:Int.gcd u v=1):pok n (kIx n u v)=true:=by
 rw[prim_iff hn]
 intro g h1 h2 _
 have h3:g∣Int.gcd u v:=Int.dvd_gcd h1 h2
 rw[h]at h3
 exact Nat.dvd_one.1 h3
theorem plc_prim {n:Nat} {D u v:Int} (hn:0<n) (hp:pok n (kIx n u v)=true):∃ j s,j<(pts n (n*n)).length∧1≤s∧s≤n∧pun n s=true∧pmul n s ((pts n (n*n)).getD j 0)=kIx n u v∧plcOf n D u v=(j,Pl.kroP D s):=by
 obtain⟨j,s,h1,h2,h3,h4,h5⟩:=place_ex hn (kIx_lt hn u v) hp
 exact⟨j,s,h1,h2,h3,h4,h5,plAll_hit hn h1 h2 h3 h4 h5 n h3 (Nat.le_refl _)⟩
theorem plc_scale {n wt s:Nat} {D u v u' v':Int} (hck:Pl.check n ((wt:Int)+2) D=0) (hp:pok n (kIx n u v)=true) (h1:1≤s) (h2:s≤n) (hs:pun n s=true) (hu:u' % n=(s*u) % n) (hv:v' % n=(s*v) % n):
  plcOf n D u' v'=((plcOf n D u v).1,Pl.kroP D s*(plcOf n D u v).2):=by
 obtain⟨⟨a1,a2⟩,_,⟨a3,a4⟩,a5,a6⟩:=Pl.check_ok hck
 have hn:0<n:=by omega
 obtain⟨j,t,b1,b2,b3,b4,b5,b6⟩:=plc_prim (D:=D) hn hp
 obtain⟨r,c1,c2,c3,c4⟩:=pun_small hn (pun_mul hs b4)
 have e:pmul n r ((pts n (n*n)).getD j 0)=kIx n u' v':=by rw[kIx_scale hn hu hv,← b5,pmul_comp hn,pmul_congr c4]
 have hk:=Pl.kro_mul (N:=n) (D:=D) (a:=s) (b:=t) (c:=r) hn a3 a4 a5 a6 (by omega) (by omega) (by omega) (by omega) (by omega) (by omega) (by simpa [pun] using hs) (by simpa [pun] using b4) (by simpa [pun] using c3) c4.symm
 have h6:plcOf n D u' v'=(j,Pl.kroP D r):=plAll_hit hn b1 c1 c2 c3 e n c2 (Nat.le_refl _)
 rw[h6,b6,hk.1]
theorem plc_ne {n wt:Nat} {D u v:Int} (hck:Pl.check n ((wt:Int)+2) D=0) (hp:pok n (kIx n u v)=true):(plcOf n D u v).2≠0∧(plcOf n D u v).1<(pts n (n*n)).length:=by
 obtain⟨⟨a1,a2⟩,_,⟨a3,a4⟩,a5,a6⟩:=Pl.check_ok hck
 have hn:0<n:=by omega
 obtain⟨j,t,b1,b2,b3,b4,b5,b6⟩:=plc_prim (D:=D) hn hp
 obtain⟨r,c1,c2,c3,c4⟩:=pun_small hn (pun_mul b4 b4)
 have hk:=Pl.kro_mul (N:=n) (D:=D) (a:=t) (b:=t) (c:=r) hn a3 a4 a5 a6 (by omega) (by omega) (by omega) (by omega) (by omega) (by omega) (by simpa [pun] using b4) (by simpa [pun] using b4) (by simpa [pun] using c3) c4.symm
 rw[b6]
 exact⟨by rcases hk.2 with h|h <;>(dsimp only;rw[h];decide),b1⟩
def RelZ (n wt:Nat) (D:Int) (x:Nat→Rat):Prop:=∀ r,r<2*((wt+1)*(pts n (n*n)).length)→sumQ (fun k=>(relOf n wt D r k:Rat)*x k) ((wt+1)*(pts n (n*n)).length)=0
theorem one_sum {n wt:Nat} {x:Nat→Rat} {r:Nat} (hr:r<(wt+1)*(pts n (n*n)).length):sumQ (fun k=>((if k=r then 1 else 0:Int):Rat)*x k) ((wt+1)*(pts n (n*n)).length)=x r:=by
 rw[sumQ_single hr]
 ·rw[if_pos rfl];push_cast;grind
 ·intro i _ h;rw[if_neg h];push_cast;grind
theorem pt_pair {n j:Nat} (hn:0<n) (hj:j<(pts n (n*n)).length):kIx n ((pts n (n*n)).getD j 0 / n:Nat) ((pts n (n*n)).getD j 0 % n:Nat)=(pts n (n*n)).getD j 0∧pok n (kIx n ((pts n (n*n)).getD j 0 / n:Nat) ((pts n (n*n)).getD j 0 % n:Nat))=true:=by
 have hm:=getD_mem hj
 have hlt:=pts_lt hm
 have e:kIx n ((pts n (n*n)).getD j 0 / n:Nat) ((pts n (n*n)).getD j 0 % n:Nat)=(pts n (n*n)).getD j 0:=by
  have h1:(pts n (n*n)).getD j 0 / n<n:=Nat.div_lt_of_lt_mul hlt
  have h2:(pts n (n*n)).getD j 0 % n<n:=Nat.mod_lt _ hn
  have h5:∀ z:Nat,z<n→(((z:Nat):Int) % n).toNat=z:=fun z hz=>by rw[Int.emod_eq_of_lt (by omega) (by omega)];omega
  have h3:=h5 _ h1
  have h4:=h5 _ h2
  unfold kIx
  rw[h3,h4,Nat.mul_comm,Nat.div_add_mod]
 exact⟨e,by rw[e];exact(pts_ok hm).1⟩
theorem sub_eq {P:Nat→Rat} {wt:Nat} {a b c d:Int}:(fun l=>sumQ (fun i=>P i*(mv i a b c d wt l:Rat)) (wt+1))=subst P wt a b c d (wt+1):=rfl
theorem turn_pt {n wt:Nat} {D:Int} {x:Nat→Rat} (hck:Pl.check n ((wt:Int)+2) D=0) (hR:RelZ n wt D x) {j:Nat} (hj:j<(pts n (n*n)).length) (P:Nat→Rat):
  cP n wt x (j,1) P+cP n wt x (plcOf n D (((pts n (n*n)).getD j 0 / n:Nat)*0+((pts n (n*n)).getD j 0 % n:Nat)*1) (((pts n (n*n)).getD j 0 / n:Nat)*(-1)+((pts n (n*n)).getD j 0 % n:Nat)*0)) (subst P wt 0 (-1) 1 0 (wt+1))=0:=by
 obtain⟨⟨a1,a2⟩,_,⟨a3,a4⟩,a5,a6⟩:=Pl.check_ok hck
 have hn:0<n:=by omega
 have hpr:=(pt_pair hn hj).2
 have g1:=plc_ne hck (prim_move (a:=0) (b:=-1) (c:=1) (d:=0) hn hpr (by decide))
 have hrow:∀ i,i<wt+1→x (i*(pts n (n*n)).length+j)+cP n wt x (plcOf n D (((pts n (n*n)).getD j 0 / n:Nat)*0+((pts n (n*n)).getD j 0 % n:Nat)*1) (((pts n (n*n)).getD j 0 / n:Nat)*(-1)+((pts n (n*n)).getD j 0 % n:Nat)*0)) (fun l=>(mv i 0 (-1) 1 0 wt l:Rat))=0:=by
  intro i hi
  have hlt:i*(pts n (n*n)).length+j<(wt+1)*(pts n (n*n)).length:=by
   have h7:=Nat.mul_le_mul_right (pts n (n*n)).length (show i+1≤wt+1 by omega)
   rw[Nat.succ_mul]at h7
   omega
  have h:=hR (i*(pts n (n*n)).length+j) (by omega)
  have hs:=mvd_sum (wt:=wt) (D:=D) x (i:=i) (j:=j) (a:=0) (b:=-1) (c:=1) (d:=0) rfl (fun _=>g1.2)
  rw[← hs,← one_sum (x:=x) hlt,← sumQ_add,← h]
  refine sumQ_congr (fun k _=>?_)
  unfold relOf relE
  rw[if_pos hlt,Nat.mul_comm i,Nat.mul_add_div (by omega),Nat.div_eq_of_lt hj,Nat.add_zero,Nat.mul_add_mod,Nat.mod_eq_of_lt hj]
  unfold gTurn
  push_cast
  grind
 rw[← sub_eq,cP_sum]
 unfold cP at hrow ⊢
 rw[← sumQ_add]
 refine sumQ_zero (fun i hi=>?_)
 have h:=hrow i hi
 dsimp only
 generalize sumQ _ (wt+1)=z at h ⊢
 push_cast
 grind
theorem third_pt {n wt:Nat} {D:Int} {x:Nat→Rat} (hck:Pl.check n ((wt:Int)+2) D=0) (hR:RelZ n wt D x) {j:Nat} (hj:j<(pts n (n*n)).length) (P:Nat→Rat):
  cP n wt x (j,1) P+cP n wt x (plcOf n D (((pts n (n*n)).getD j 0 / n:Nat)*0+((pts n (n*n)).getD j 0 % n:Nat)*1) (((pts n (n*n)).getD j 0 / n:Nat)*(-1)+((pts n (n*n)).getD j 0 % n:Nat)*(-1))) (subst P wt 0 (-1) 1 (-1) (wt+1))
   + cP n wt x (plcOf n D (((pts n (n*n)).getD j 0 / n:Nat)*(-1)+((pts n (n*n)).getD j 0 % n:Nat)*(-1)) (((pts n (n*n)).getD j 0 / n:Nat)*1+((pts n (n*n)).getD j 0 % n:Nat)*0)) (subst P wt (-1) 1 (-1) 0 (wt+1))=0:=by
 obtain⟨⟨a1,a2⟩,_,⟨a3,a4⟩,a5,a6⟩:=Pl.check_ok hck
 have hn:0<n:=by omega
 have hpr:=(pt_pair hn hj).2
 have g1:=plc_ne hck (prim_move (a:=0) (b:=-1) (c:=1) (d:=-1) hn hpr (by decide))
 have g2:=plc_ne hck (prim_move (a:=-1) (b:=1) (c:=-1) (d:=0) hn hpr (by decide))
 have hrow:∀ i,i<wt+1→x (i*(pts n (n*n)).length+j)+cP n wt x (plcOf n D (((pts n (n*n)).getD j 0 / n:Nat)*0+((pts n (n*n)).getD j 0 % n:Nat)*1) (((pts n (n*n)).getD j 0 / n:Nat)*(-1)+((pts n (n*n)).getD j 0 % n:Nat)*(-1))) (fun l=>(mv i 0 (-1) 1 (-1) wt l:Rat))
   + cP n wt x (plcOf n D (((pts n (n*n)).getD j 0 / n:Nat)*(-1)+((pts n (n*n)).getD j 0 % n:Nat)*(-1)) (((pts n (n*n)).getD j 0 / n:Nat)*1+((pts n (n*n)).getD j 0 % n:Nat)*0)) (fun l=>(mv i (-1) 1 (-1) 0 wt l:Rat))=0:=by
  intro i hi
  have hlt:i*(pts n (n*n)).length+j<(wt+1)*(pts n (n*n)).length:=by
   have h7:=Nat.mul_le_mul_right (pts n (n*n)).length (show i+1≤wt+1 by omega)
   rw[Nat.succ_mul]at h7
   omega
  have h:=hR ((wt+1)*(pts n (n*n)).length+(i*(pts n (n*n)).length+j)) (by omega)
  have hs:=mvd_sum (wt:=wt) (D:=D) x (i:=i) (j:=j) (a:=0) (b:=-1) (c:=1) (d:=-1) rfl (fun _=>g1.2)
  have hs2:=mvd_sum (wt:=wt) (D:=D) x (i:=i) (j:=j) (a:=-1) (b:=1) (c:=-1) (d:=0) rfl (fun _=>g2.2)
  rw[← hs,← hs2,← one_sum (x:=x) hlt,← sumQ_add,← sumQ_add,← h]
  refine sumQ_congr (fun k _=>?_)
  unfold relOf relE
  rw[if_neg (show ¬ ((wt+1)*(pts n (n*n)).length+(i*(pts n (n*n)).length+j)<(wt+1)*(pts n (n*n)).length)by omega),Nat.add_sub_cancel_left,Nat.mul_comm i,Nat.mul_add_div (by omega),Nat.div_eq_of_lt hj,Nat.add_zero,Nat.mul_add_mod,Nat.mod_eq_of_lt hj]
  unfold gThird gTwice
  push_cast
  grind
 rw[← sub_eq,← sub_eq,cP_sum,cP_sum]
 unfold cP at hrow ⊢
 rw[← sumQ_add,← sumQ_add]
 refine sumQ_zero (fun i hi=>?_)
 have h:=hrow i hi
 dsimp only
 generalize sumQ _ (wt+1)=z at h ⊢
 generalize sumQ _ (wt+1)=z2 at h ⊢
 push_cast
 grind
theorem plc_moved {n wt:Nat} {D u v:Int} (hck:Pl.check n ((wt:Int)+2) D=0) (hp:pok n (kIx n u v)=true):∃ (j:Nat) (e:Int),j<(pts n (n*n)).length∧plcOf n D u v=(j,e*1)∧∀ a b c d:Int,a*d - b*c=1 →
  plcOf n D (u*a+v*c) (u*b+v*d)=((plcOf n D (((pts n (n*n)).getD j 0 / n:Nat)*a+((pts n (n*n)).getD j 0 % n:Nat)*c) (((pts n (n*n)).getD j 0 / n:Nat)*b+((pts n (n*n)).getD j 0 % n:Nat)*d)).1,e*(plcOf n D (((pts n (n*n)).getD j 0 / n:Nat)*a+((pts n (n*n)).getD j 0 % n:Nat)*c) (((pts n (n*n)).getD j 0 / n:Nat)*b+((pts n (n*n)).getD j 0 % n:Nat)*d)).2):=by
 obtain⟨⟨a1,a2⟩,_,⟨a3,a4⟩,a5,a6⟩:=Pl.check_ok hck
 have hn:0<n:=by omega
 obtain⟨j,s,b1,b2,b3,b4,b5,b6⟩:=plc_prim (D:=D) hn hp
 have hpp:=pt_pair hn b1
 have hu:u % n=(s*((pts n (n*n)).getD j 0 / n:Nat)) % n:=by
  have h:pmul n s ((pts n (n*n)).getD j 0) / n=kIx n u v / n:=by rw[b5]
  rw[pmul_div hn,kIx_div hn]at h
  have h3:=Int.emod_nonneg u (show(n:Int)≠0 by omega)
  have h4:((s*((pts n (n*n)).getD j 0 / n) % n:Nat):Int)=u % n:=by omega
  rw[← h4];push_cast;rfl
 have hv:v % n=(s*((pts n (n*n)).getD j 0 % n:Nat)) % n:=by
  have h:pmul n s ((pts n (n*n)).getD j 0) % n=kIx n u v % n:=by rw[b5]
  rw[pmul_mod,kIx_mod hn]at h
  have h3:=Int.emod_nonneg v (show(n:Int)≠0 by omega)
  have h4:((s*((pts n (n*n)).getD j 0 % n) % n:Nat):Int)=v % n:=by omega
  rw[← h4];push_cast;rfl
 have comb:∀ a c:Int,(u*a+v*c) % n=(s*(((pts n (n*n)).getD j 0 / n:Nat)*a+((pts n (n*n)).getD j 0 % n:Nat)*c)) % n:=fun a c=>by
  rw[Int.mul_add,← Int.mul_assoc,← Int.mul_assoc,Int.add_emod,Int.mul_emod u,Int.mul_emod v,hu,hv,← Int.mul_emod,← Int.mul_emod,← Int.add_emod]
 refine⟨j,Pl.kroP D s,b1,by rw[Int.mul_one];exact b6,fun a b c d hd=>?_⟩
 exact plc_scale hck (prim_move hn hpp.2 hd) b2 b3 b4 (comb a c) (comb b d)
theorem cP_scale {n wt:Nat} {x:Nat→Rat} {e:Int} (p:Nat×Int) (P:Nat→Rat):cP n wt x (p.1,e*p.2) P=(e:Rat)*cP n wt x p P:=cP_sign x p.1 e p.2 P
theorem rel_turn {n wt:Nat} {D:Int} {x:Nat→Rat} (hck:Pl.check n ((wt:Int)+2) D=0) (hR:RelZ n wt D x) {u v:Int} (hp:pok n (kIx n u v)=true) (P:Nat→Rat):
  cP n wt x (plcOf n D u v) P+cP n wt x (plcOf n D v (-u)) (subst P wt 0 (-1) 1 0 (wt+1))=0:=by
 obtain⟨j,e,hj,h1,h2⟩:=plc_moved hck hp
 have h3:=h2 0 (-1) 1 0 (by decide)
 rw[show u*0+v*1=v by omega,show u*(-1)+v*0=-u by omega]at h3
 rw[h1,h3,cP_scale,cP_sign,← Rat.mul_add,turn_pt hck hR hj P,Rat.mul_zero]
theorem rel_third {n wt:Nat} {D:Int} {x:Nat→Rat} (hck:Pl.check n ((wt:Int)+2) D=0) (hR:RelZ n wt D x) {u v:Int} (hp:pok n (kIx n u v)=true) (P:Nat→Rat):
  cP n wt x (plcOf n D u v) P+cP n wt x (plcOf n D v (-u - v)) (subst P wt 0 (-1) 1 (-1) (wt+1))+cP n wt x (plcOf n D (-u - v) u) (subst P wt (-1) 1 (-1) 0 (wt+1))=0:=by
 obtain⟨j,e,hj,h1,h2⟩:=plc_moved hck hp
 have h3:=h2 0 (-1) 1 (-1) (by decide)
 have h4:=h2 (-1) 1 (-1) 0 (by decide)
 rw[show u*0+v*1=v by omega,show u*(-1)+v*(-1)=-u - v by omega]at h3
 rw[show u*(-1)+v*(-1)=-u - v by omega,show u*1+v*0=u by omega]at h4
 rw[h1,h3,h4,cP_scale,cP_scale,cP_sign,← Rat.mul_add,← Rat.mul_add,third_pt hck hR hj P,Rat.mul_zero]
def Nb (x y:Int×Int):Prop:=y.1*x.2 - x.1*y.2=1∨y.1*x.2 - x.1*y.2=-1
theorem Nb.symm {x y:Int×Int} (h:Nb x y):Nb y x:=by unfold Nb at *;omega
def Gd (x:Int×Int):Prop:=0≤x.2∧(x.2=0→x.1=1)
structure Steps (st:Int×Int→Int×Int→Rat):Prop where
 anti:∀ x y,Nb x y→st x y+st y x=0
 tri:∀ x y,Nb x y→st x y+st y (x.1+y.1,x.2+y.2)+st (x.1+y.1,x.2+y.2) x=0
noncomputable def par (x:Int×Int):Int×Int:=by
 classical
 exact if h:∃ y:Int×Int,y.1*x.2 - x.1*y.2=1∧0≤y.2∧y.2<x.2 then h.choose else(1,0)
theorem par_unique {x y z:Int×Int} (h1:y.1*x.2 - x.1*y.2=1) (h2:0≤y.2) (h3:y.2<x.2) (g1:z.1*x.2 - x.1*z.2=1) (g2:0≤z.2) (g3:z.2<x.2):y=z:=by
 have e:y.2 - z.2=x.2*(y.1*(y.2 - z.2) - (y.1 - z.1)*y.2):=by
  have h:(y.1 - z.1)*x.2=x.1*(y.2 - z.2):=by grind
  calc y.2 - z.2=(y.1*x.2 - x.1*y.2)*(y.2 - z.2):=by rw[h1,Int.one_mul]
   _=x.2*(y.1*(y.2 - z.2)) - (x.1*(y.2 - z.2))*y.2:=by grind
   _=x.2*(y.1*(y.2 - z.2) - (y.1 - z.1)*y.2):=by rw[← h];grind
 have h0:y.2 - z.2=0:=by
  obtain⟨t,ht⟩:∃ t,y.1*(y.2 - z.2) - (y.1 - z.1)*y.2=t:=⟨_,rfl⟩
  rw[ht]at e
  rcases Int.lt_trichotomy t 0 with h|h|h
  ·have:=Int.mul_le_mul_of_nonneg_left (show t≤-1 by omega) (show 0≤x.2 by omega)
   omega
  ·rw[e,h,Int.mul_zero]
  ·have:=Int.mul_le_mul_of_nonneg_left (show 1≤t by omega) (show 0≤x.2 by omega)
   omega
 have h2':y.2=z.2:=by omega
 have h4:(y.1 - z.1)*x.2=0:=by rw[h2']at h1;grind
 have h5:y.1=z.1:=by
  rcases Int.mul_eq_zero.1 h4 with h|h <;> omega
 exact Prod.ext h5 h2'
theorem par_eq {x y:Int×Int} (h1:y.1*x.2 - x.1*y.2=1) (h2:0≤y.2) (h3:y.2<x.2):par x=y:=by
 have hex:∃ y:Int×Int,y.1*x.2 - x.1*y.2=1∧0≤y.2∧y.2<x.2:=⟨y,h1,h2,h3⟩
 unfold par
 rw[dif_pos hex]
 have h:=hex.choose_spec
 exact par_unique h.1 h.2.1 h.2.2 h1 h2 h3
noncomputable def pot (st:Int×Int→Int×Int→Rat):Nat→Int×Int→Rat
 | 0,_=>0
 | k+1,x=>if 0<x.2∧(par x).2<x.2 then pot st k (par x)+st (par x) x else 0
noncomputable def Pot (st:Int×Int→Int×Int→Rat) (x:Int×Int):Rat:=pot st x.2.toNat x
theorem pot_fuel (st:Int×Int→Int×Int→Rat):∀ (k:Nat) (x:Int×Int),x.2.toNat≤k→pot st k x=Pot st x:=by
 intro k
 induction k using Nat.strongRecOn with
 | _ k ih=>
  intro x hx
  unfold Pot
  rcases Nat.eq_zero_or_pos k with hk|hk
  ·rw[hk,show x.2.toNat=0 by omega]
  ·obtain⟨m,rfl⟩:∃ m,k=m+1:=⟨k - 1,by omega⟩
   rcases Nat.eq_zero_or_pos x.2.toNat with h0|h0
   ·have e:pot st (m+1) x=0:=by rw[pot,if_neg (by omega)]
    rw[h0,e];rfl
   ·obtain⟨l,hl⟩:∃ l,x.2.toNat=l+1:=⟨x.2.toNat - 1,by omega⟩
    rw[hl,pot,pot]
    by_cases h:0<x.2∧(par x).2<x.2
    ·rw[if_pos h,if_pos h,ih m (by omega) (par x) (by omega),ih l (by omega) (par x) (by omega)]
    ·rw[if_neg h,if_neg h]
theorem Pot_par {st:Int×Int→Int×Int→Rat} {x y:Int×Int} (h1:y.1*x.2 - x.1*y.2=1) (h2:0≤y.2) (h3:y.2<x.2):Pot st x=Pot st y+st y x:=by
 have hp:=par_eq h1 h2 h3
 obtain⟨l,hl⟩:∃ l,x.2.toNat=l+1:=⟨x.2.toNat - 1,by omega⟩
 unfold Pot
 rw[hl,pot,hp,if_pos ⟨by omega,h3⟩,pot_fuel st l y (by omega)];rfl
theorem Steps.diff {st:Int×Int→Int×Int→Rat} (h:Steps st):∀ (N:Nat) (x y:Int×Int),Gd x→Gd y→Nb x y→(x.2+y.2).toNat≤N→st x y=Pot st y - Pot st x:=by
 intro N
 induction N with
 | zero=>
  intro x y hx hy hn hN
  exfalso
  have e1:x.2=0:=by have:=hx.1;have:=hy.1;omega
  have e2:y.2=0:=by have:=hx.1;have:=hy.1;omega
  unfold Nb at hn
  rw[e1,e2]at hn
  simp at hn
 | succ N ih=>
  have key:∀ x y:Int×Int,Gd x→Gd y→Nb x y→(x.2+y.2).toNat≤N+1→x.2≤y.2→st x y=Pot st y - Pot st x:=by
   intro x y hx hy hn hN hle
   have hx0:=hx.1
   rcases Int.lt_or_eq_of_le hle with hlt|heq
   ·rcases hn with hd|hd
    ·
     have hx2:x.2≠0:=fun e=>by
      have h1:=hx.2 e
      rw[e,h1]at hd
      omega
     obtain⟨z,hz⟩:∃ z:Int×Int,z=(y.1 - x.1,y.2 - x.2):=⟨_,rfl⟩
     have z1:z.1=y.1 - x.1:=by rw[hz]
     have z2:z.2=y.2 - x.2:=by rw[hz]
     have hzy:z.1*y.2 - y.1*z.2=1:=by rw[z1,z2];grind
     have hP:=Pot_par (st:=st) hzy (by omega) (by omega)
     have hzx:Nb z x:=.inr (by rw[z1,z2];grind)
     have hs:(z.1+x.1,z.2+x.2)=y:=Prod.ext (by show z.1+x.1=y.1;omega) (by show z.2+x.2=y.2;omega)
     have hT:=h.tri z x hzx
     rw[hs]at hT
     have hA:=h.anti z y (.inr (by grind))
     have hI:=ih z x ⟨by omega,fun e=>by omega⟩ hx hzx (by omega)
     grind
    ·
     have hP:=Pot_par (st:=st) (x:=y) (y:=x) (by omega) hx0 hlt
     grind
   ·
    have hq:y.2=1:=by
     have h1:y.2*(y.1 - x.1)=1∨y.2*(y.1 - x.1)=-1:=by
      unfold Nb at hn
      rw[heq]at hn
      rcases hn with hn|hn
      ·left;rw[← hn];grind
      ·right;rw[← hn];grind
     have h2:y.2∣1:=by
      rcases h1 with h1|h1
      ·exact⟨_,h1.symm⟩
      ·exact⟨-(y.1 - x.1),by rw[Int.mul_neg,h1];rfl⟩
     have h3:=Int.le_of_dvd (by decide) h2
     have h4:y.2≠0:=fun e=>by rw[e]at h1;simp at h1
     omega
    have hxq:x.2=1:=by omega
    obtain⟨oo,ho⟩:∃ oo:Int×Int,oo=(1,0):=⟨_,rfl⟩
    have o1:oo.1=1:=by rw[ho]
    have o2:oo.2=0:=by rw[ho]
    have hPx:=Pot_par (st:=st) (x:=x) (y:=oo) (by rw[o1,o2,hxq];omega) (by omega) (by omega)
    have hPy:=Pot_par (st:=st) (x:=y) (y:=oo) (by rw[o1,o2,hq];omega) (by omega) (by omega)
    have hP0:Pot st oo=0:=by unfold Pot;rw[o2];rfl
    have hox:Nb oo x:=.inr (by rw[o1,o2,hxq];omega)
    have hoy:Nb oo y:=.inr (by rw[o1,o2,hq];omega)
    have hA:=h.anti x y hn
    have hBx:=h.anti oo x hox
    have hBy:=h.anti oo y hoy
    have h1:y.1=x.1+1∨x.1=y.1+1:=by unfold Nb at hn;rw[hq,hxq]at hn;omega
    rcases h1 with h1|h1
    ·have hs:(oo.1+x.1,oo.2+x.2)=y:=Prod.ext (by show oo.1+x.1=y.1;omega) (by show oo.2+x.2=y.2;omega)
     have hT:=h.tri oo x hox
     rw[hs]at hT
     grind
    ·have hs:(oo.1+y.1,oo.2+y.2)=x:=Prod.ext (by show oo.1+y.1=x.1;omega) (by show oo.2+y.2=x.2;omega)
     have hT:=h.tri oo y hoy
     rw[hs]at hT
     grind
  intro x y hx hy hn hN
  rcases Int.le_total x.2 y.2 with hle|hle
  ·exact key x y hx hy hn hN hle
  ·have h1:=key y x hy hx hn.symm (by rw[Int.add_comm];exact hN) hle
   have h2:=h.anti x y hn
   grind
theorem Steps.chain {st:Int×Int→Int×Int→Rat} (h:Steps st) (ch:Nat→Int×Int):∀ k,(∀ j,j≤k→Gd (ch j))→(∀ j,j<k→Nb (ch j) (ch (j+1)))→sumQ (fun j=>st (ch j) (ch (j+1))) k=Pot st (ch k) - Pot st (ch 0)
 | 0,_,_=>by show(0:Rat)=_;grind
 | k+1,hg,hn=>by
  rw[sumQ,h.chain ch k (fun j hj=>hg j (by omega)) (fun j hj=>hn j (by omega)),h.diff _ _ _ (hg k (by omega)) (hg (k+1) (by omega)) (hn k (by omega)) (Nat.le_refl _)]
  grind
def ph (n wt:Nat) (D:Int) (x:Nat→Rat) (Q:Nat→Rat) (a b c d:Int):Rat:=cP n wt x (plcOf n D c d) (subst Q wt a b c d (wt+1))
theorem det_prim {n:Nat} {a b c d:Int} (hn:0<n) (h:a*d - b*c=1):pok n (kIx n c d)=true:=by
 refine prim_gcd hn ?_
 have h1:((Int.gcd c d:Nat):Int)∣1:=by
  rw[← h]
  exact Int.dvd_sub (Int.dvd_trans (Int.gcd_dvd_right ..) (Int.dvd_mul_left _ _)) (Int.dvd_trans (Int.gcd_dvd_left ..) (Int.dvd_mul_left _ _))
 have h2:(Int.gcd c d)∣1:=Int.natCast_dvd_natCast.1 h1
 exact Nat.dvd_one.1 h2
section
variable {n wt:Nat} {D:Int} {x:Nat→Rat} {Q:Nat→Rat}
theorem sub2 (a b c d a' b' c' d':Int):subst (subst Q wt a b c d (wt+1)) wt a' b' c' d' (wt+1)=subst Q wt (a*a'+b*c') (a*b'+b*d') (c*a'+d*c') (c*b'+d*d') (wt+1):=funext fun j=>subst_subst Q a b c d a' b' c' d' wt j
theorem ph_turn (hck:Pl.check n ((wt:Int)+2) D=0) (hR:RelZ n wt D x) {a b c d:Int} (h:a*d - b*c=1):ph n wt D x Q a b c d+ph n wt D x Q b (-a) d (-c)=0:=by
 obtain⟨⟨a1,a2⟩,_⟩:=Pl.check_ok hck
 have h1:=rel_turn hck hR (det_prim (n:=n) (by omega) h) (subst Q wt a b c d (wt+1))
 rw[sub2,show a*0+b*1=b by omega,show a*(-1)+b*0=-a by omega,show c*0+d*1=d by omega,show c*(-1)+d*0=-c by omega]at h1
 exact h1
theorem ph_third (hck:Pl.check n ((wt:Int)+2) D=0) (hR:RelZ n wt D x) {a b c d:Int} (h:a*d - b*c=1):ph n wt D x Q a b c d+ph n wt D x Q b (-a - b) d (-c - d)+ph n wt D x Q (-a - b) a (-c - d) c=0:=by
 obtain⟨⟨a1,a2⟩,_⟩:=Pl.check_ok hck
 have h1:=rel_third hck hR (det_prim (n:=n) (by omega) h) (subst Q wt a b c d (wt+1))
 rw[sub2,sub2,show a*0+b*1=b by omega,show a*(-1)+b*(-1)=-a - b by omega,show c*0+d*1=d by omega,show c*(-1)+d*(-1)=-c - d by omega,show a*1+b*0=a by omega,show c*1+d*0=c by omega]at h1
 exact h1
theorem ph_neg (hck:Pl.check n ((wt:Int)+2) D=0) (hR:RelZ n wt D x) {a b c d:Int} (h:a*d - b*c=1):ph n wt D x Q (-a) (-b) (-c) (-d)=ph n wt D x Q a b c d:=by
 have h1:=ph_turn (Q:=Q) hck hR h
 have h2:=ph_turn (Q:=Q) hck hR (a:=b) (b:=-a) (c:=d) (d:=-c) (by grind)
 grind
def stepQ (n wt:Nat) (D:Int) (x:Nat→Rat) (Q:Nat→Rat) (y z:Int×Int):Rat:=if z.1*y.2 - y.1*z.2=1 then ph n wt D x Q z.1 y.1 z.2 y.2 else ph n wt D x Q z.1 (-y.1) z.2 (-y.2)
theorem stepQ_ok (hck:Pl.check n ((wt:Int)+2) D=0) (hR:RelZ n wt D x):Steps (stepQ n wt D x Q) where
 anti y z h:=by
  unfold stepQ
  rcases h with h|h
  ·rw[if_pos h,if_neg (by omega)]
   exact ph_turn hck hR (by grind)
  ·rw[if_neg (by omega),if_pos (by omega)]
   have h1:=ph_turn (Q:=Q) hck hR (a:=z.1) (b:=-y.1) (c:=z.2) (d:=-y.2) (by grind)
   have h2:=ph_neg (Q:=Q) hck hR (a:=y.1) (b:=z.1) (c:=y.2) (d:=z.2) (by grind)
   rw[h2]at h1
   exact h1
 tri y z h:=by
  have key:∀ y z:Int×Int,z.1*y.2 - y.1*z.2=1→stepQ n wt D x Q y z+stepQ n wt D x Q z (y.1+z.1,y.2+z.2)+stepQ n wt D x Q (y.1+z.1,y.2+z.2) y=0:=by
   intro y z h
   unfold stepQ
   dsimp only
   rw[if_pos h,if_neg (by grind),if_neg (by grind)]
   have h1:=ph_third (Q:=Q) hck hR (a:=z.1) (b:=y.1) (c:=z.2) (d:=y.2) (by grind)
   have h2:=ph_neg (Q:=Q) hck hR (a:=y.1+z.1) (b:=-z.1) (c:=y.2+z.2) (d:=-z.2) (by grind)
   rw[show -(y.1+z.1)=-z.1 - y.1 by omega,show -(y.2+z.2)=-z.2 - y.2 by omega,Int.neg_neg,Int.neg_neg]at h2
   rw[show -(y.1+z.1)=-z.1 - y.1 by omega,show -(y.2+z.2)=-z.2 - y.2 by omega,← h2]
   grind
  have anti:∀ y z:Int×Int,Nb y z→stepQ n wt D x Q y z+stepQ n wt D x Q z y=0:=by
   intro y z h
   unfold stepQ
   rcases h with h|h
   ·rw[if_pos h,if_neg (by omega)]
    exact ph_turn hck hR (by grind)
   ·rw[if_neg (by omega),if_pos (by omega)]
    have h1:=ph_turn (Q:=Q) hck hR (a:=z.1) (b:=-y.1) (c:=z.2) (d:=-y.2) (by grind)
    have h2:=ph_neg (Q:=Q) hck hR (a:=y.1) (b:=z.1) (c:=y.2) (d:=z.2) (by grind)
    rw[h2]at h1
    exact h1
  rcases h with h|h
  ·exact key y z h
  ·have h1:=key z y (by omega)
   rw[Int.add_comm z.1,Int.add_comm z.2]at h1
   have a1:=anti y z (.inr h)
   have a2:=anti z (y.1+z.1,y.2+z.2) (by unfold Nb;dsimp only;grind)
   have a3:=anti y (y.1+z.1,y.2+z.2) (by unfold Nb;dsimp only;grind)
   grind
end
end Go.Proofs.YtijgdhijdfgpfaaGreatDoor
