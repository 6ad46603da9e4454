/- EVERY WAY IS RIGHT: the class of a step between Farey neighbours is the difference of a potential at its ends. No program in sight. -/
import Derived.Test.YtijgdhijdfgpfaaGreatDoorV39
import Derived.Test.YtijgdhijdfgpfaaGreatDoorV21
namespace Go.Proofs.YtijgdhijdfgpfaaGreatDoor
open Eli
def Nb (x y:Int×Int):Prop:=y.1*x.2 - x.1*y.2=1∨y.1*x.2 - x.1*y.2=-1
theorem Nb.symm {x y:Int×Int} (h:Nb x y):Nb y x:=by unfold Nb at *;omega
def Gd (x:Int×Int):Prop:=0≤x.2∧(x.2=0→x.1=1)
structure Steps (st:Int×Int→Int×Int→Rat):Prop where
 anti:∀ x y,Nb x y→st x y+st y x=0
 tri:∀ x y,Nb x y→st x y+st y (x.1+y.1,x.2+y.2)+st (x.1+y.1,x.2+y.2) x=0
noncomputable def par (x:Int×Int):Int×Int:=by
 classical
 exact if h:∃ y:Int×Int,y.1*x.2 - x.1*y.2=1∧0≤y.2∧y.2<x.2 then h.choose else(1,0)
theorem par_unique {x y z:Int×Int} (h1:y.1*x.2 - x.1*y.2=1) (h2:0≤y.2) (h3:y.2<x.2) (g1:z.1*x.2 - x.1*z.2=1) (g2:0≤z.2) (g3:z.2<x.2):y=z:=by
 have e:y.2 - z.2=x.2*(y.1*(y.2 - z.2) - (y.1 - z.1)*y.2):=by
  have h:(y.1 - z.1)*x.2=x.1*(y.2 - z.2):=by grind
  calc y.2 - z.2=(y.1*x.2 - x.1*y.2)*(y.2 - z.2):=by rw[h1,Int.one_mul]
   _=x.2*(y.1*(y.2 - z.2)) - (x.1*(y.2 - z.2))*y.2:=by grind
   _=x.2*(y.1*(y.2 - z.2) - (y.1 - z.1)*y.2):=by rw[← h];grind
 have h0:y.2 - z.2=0:=by
  obtain⟨t,ht⟩:∃ t,y.1*(y.2 - z.2) - (y.1 - z.1)*y.2=t:=⟨_,rfl⟩
  rw[ht]at e
  rcases Int.lt_trichotomy t 0 with h|h|h
  ·have:=Int.mul_le_mul_of_nonneg_left (show t≤-1 by omega) (show 0≤x.2 by omega)
   omega
  ·rw[e,h,Int.mul_zero]
  ·have:=Int.mul_le_mul_of_nonneg_left (show 1≤t by omega) (show 0≤x.2 by omega)
   omega
 have h2':y.2=z.2:=by omega
 have h4:(y.1 - z.1)*x.2=0:=by rw[h2']at h1;grind
 have h5:y.1=z.1:=by
  rcases Int.mul_eq_zero.1 h4 with h|h <;> omega
 exact Prod.ext h5 h2'
theorem par_eq {x y:Int×Int} (h1:y.1*x.2 - x.1*y.2=1) (h2:0≤y.2) (h3:y.2<x.2):par x=y:=by
 have hex:∃ y:Int×Int,y.1*x.2 - x.1*y.2=1∧0≤y.2∧y.2<x.2:=⟨y,h1,h2,h3⟩
 unfold par
 rw[dif_pos hex]
 have h:=hex.choose_spec
 exact par_unique h.1 h.2.1 h.2.2 h1 h2 h3
noncomputable def pot (st:Int×Int→Int×Int→Rat):Nat→Int×Int→Rat
 | 0,_=>0
 | k+1,x=>if 0<x.2∧(par x).2<x.2 then pot st k (par x)+st (par x) x else 0
noncomputable def Pot (st:Int×Int→Int×Int→Rat) (x:Int×Int):Rat:=pot st x.2.toNat x
theorem pot_fuel (st:Int×Int→Int×Int→Rat):∀ (k:Nat) (x:Int×Int),x.2.toNat≤k→pot st k x=Pot st x:=by
 intro k
 induction k using Nat.strongRecOn with
 | _ k ih=>
  intro x hx
  unfold Pot
  rcases Nat.eq_zero_or_pos k with hk|hk
  ·rw[hk,show x.2.toNat=0 by omega]
  ·obtain⟨m,rfl⟩:∃ m,k=m+1:=⟨k - 1,by omega⟩
   rcases Nat.eq_zero_or_pos x.2.toNat with h0|h0
   ·have e:pot st (m+1) x=0:=by rw[pot,if_neg (by omega)]
    rw[h0,e];rfl
   ·obtain⟨l,hl⟩:∃ l,x.2.toNat=l+1:=⟨x.2.toNat - 1,by omega⟩
    rw[hl,pot,pot]
    by_cases h:0<x.2∧(par x).2<x.2
    ·rw[if_pos h,if_pos h,ih m (by omega) (par x) (by omega),ih l (by omega) (par x) (by omega)]
    ·rw[if_neg h,if_neg h]
theorem Pot_par {st:Int×Int→Int×Int→Rat} {x y:Int×Int} (h1:y.1*x.2 - x.1*y.2=1) (h2:0≤y.2) (h3:y.2<x.2):Pot st x=Pot st y+st y x:=by
 have hp:=par_eq h1 h2 h3
 obtain⟨l,hl⟩:∃ l,x.2.toNat=l+1:=⟨x.2.toNat - 1,by omega⟩
 unfold Pot
 rw[hl,pot,hp,if_pos ⟨by omega,h3⟩,pot_fuel st l y (by omega)];rfl
theorem Steps.diff {st:Int×Int→Int×Int→Rat} (h:Steps st):∀ (N:Nat) (x y:Int×Int),Gd x→Gd y→Nb x y→(x.2+y.2).toNat≤N→st x y=Pot st y - Pot st x:=by
 intro N
 induction N with
 | zero=>
  intro x y hx hy hn hN
  exfalso
  have e1:x.2=0:=by have:=hx.1;have:=hy.1;omega
  have e2:y.2=0:=by have:=hx.1;have:=hy.1;omega
  unfold Nb at hn
  rw[e1,e2]at hn
  simp at hn
 | succ N ih=>
  have key:∀ x y:Int×Int,Gd x→Gd y→Nb x y→(x.2+y.2).toNat≤N+1→x.2≤y.2→st x y=Pot st y - Pot st x:=by
   intro x y hx hy hn hN hle
   have hx0:=hx.1
   rcases Int.lt_or_eq_of_le hle with hlt|heq
   ·rcases hn with hd|hd
    ·
     have hx2:x.2≠0:=fun e=>by
      have h1:=hx.2 e
      rw[e,h1]at hd
      omega
     obtain⟨z,hz⟩:∃ z:Int×Int,z=(y.1 - x.1,y.2 - x.2):=⟨_,rfl⟩
     have z1:z.1=y.1 - x.1:=by rw[hz]
     have z2:z.2=y.2 - x.2:=by rw[hz]
     have hzy:z.1*y.2 - y.1*z.2=1:=by rw[z1,z2];grind
     have hP:=Pot_par (st:=st) hzy (by omega) (by omega)
     have hzx:Nb z x:=.inr (by rw[z1,z2];grind)
     have hs:(z.1+x.1,z.2+x.2)=y:=Prod.ext (by show z.1+x.1=y.1;omega) (by show z.2+x.2=y.2;omega)
     have hT:=h.tri z x hzx
     rw[hs]at hT
     have hA:=h.anti z y (.inr (by grind))
     have hI:=ih z x ⟨by omega,fun e=>by omega⟩ hx hzx (by omega)
     grind
    ·
     have hP:=Pot_par (st:=st) (x:=y) (y:=x) (by omega) hx0 hlt
     grind
   ·
    have hq:y.2=1:=by
     have h1:y.2*(y.1 - x.1)=1∨y.2*(y.1 - x.1)=-1:=by
      unfold Nb at hn
      rw[heq]at hn
      rcases hn with hn|hn
      ·left;rw[← hn];grind
      ·right;rw[← hn];grind
     have h2:y.2∣1:=by
      rcases h1 with h1|h1
      ·exact⟨_,h1.symm⟩
      ·exact⟨-(y.1 - x.1),by rw[Int.mul_neg,h1];rfl⟩
     have h3:=Int.le_of_dvd (by decide) h2
     have h4:y.2≠0:=fun e=>by rw[e]at h1;simp at h1
     omega
    have hxq:x.2=1:=by omega
    obtain⟨oo,ho⟩:∃ oo:Int×Int,oo=(1,0):=⟨_,rfl⟩
    have o1:oo.1=1:=by rw[ho]
    have o2:oo.2=0:=by rw[ho]
    have hPx:=Pot_par (st:=st) (x:=x) (y:=oo) (by rw[o1,o2,hxq];omega) (by omega) (by omega)
    have hPy:=Pot_par (st:=st) (x:=y) (y:=oo) (by rw[o1,o2,hq];omega) (by omega) (by omega)
    have hP0:Pot st oo=0:=by unfold Pot;rw[o2];rfl
    have hox:Nb oo x:=.inr (by rw[o1,o2,hxq];omega)
    have hoy:Nb oo y:=.inr (by rw[o1,o2,hq];omega)
    have hA:=h.anti x y hn
    have hBx:=h.anti oo x hox
    have hBy:=h.anti oo y hoy
    have h1:y.1=x.1+1∨x.1=y.1+1:=by unfold Nb at hn;rw[hq,hxq]at hn;omega
    rcases h1 with h1|h1
    ·have hs:(oo.1+x.1,oo.2+x.2)=y:=Prod.ext (by show oo.1+x.1=y.1;omega) (by show oo.2+x.2=y.2;omega)
     have hT:=h.tri oo x hox
     rw[hs]at hT
     grind
    ·have hs:(oo.1+y.1,oo.2+y.2)=x:=Prod.ext (by show oo.1+y.1=x.1;omega) (by show oo.2+y.2=x.2;omega)
     have hT:=h.tri oo y hoy
     rw[hs]at hT
     grind
  intro x y hx hy hn hN
  rcases Int.le_total x.2 y.2 with hle|hle
  ·exact key x y hx hy hn hN hle
  ·have h1:=key y x hy hx hn.symm (by rw[Int.add_comm];exact hN) hle
   have h2:=h.anti x y hn
   grind
theorem Steps.chain {st:Int×Int→Int×Int→Rat} (h:Steps st) (ch:Nat→Int×Int):∀ k,(∀ j,j≤k→Gd (ch j))→(∀ j,j<k→Nb (ch j) (ch (j+1)))→sumQ (fun j=>st (ch j) (ch (j+1))) k=Pot st (ch k) - Pot st (ch 0)
 | 0,_,_=>by show(0:Rat)=_;grind
 | k+1,hg,hn=>by
  rw[sumQ,h.chain ch k (fun j hj=>hg j (by omega)) (fun j hj=>hn j (by omega)),h.diff _ _ _ (hg k (by omega)) (hg (k+1) (by omega)) (hn k (by omega)) (Nat.le_refl _)]
  grind
def ph (n wt:Nat) (D:Int) (x:Nat→Rat) (Q:Nat→Rat) (a b c d:Int):Rat:=cP n wt x (plcOf n D c d) (subst Q wt a b c d (wt+1))
theorem det_prim {n:Nat} {a b c d:Int} (hn:0<n) (h:a*d - b*c=1):pok n (kIx n c d)=true:=by
 refine prim_gcd hn ?_
 have h1:((Int.gcd c d:Nat):Int)∣1:=by
  rw[← h]
  exact Int.dvd_sub (Int.dvd_trans (Int.gcd_dvd_right ..) (Int.dvd_mul_left _ _)) (Int.dvd_trans (Int.gcd_dvd_left ..) (Int.dvd_mul_left _ _))
 have h2:(Int.gcd c d)∣1:=Int.natCast_dvd_natCast.1 h1
 exact Nat.dvd_one.1 h2
section
variable {n wt:Nat} {D:Int} {x:Nat→Rat} {Q:Nat→Rat}
theorem sub2 (a b c d a' b' c' d':Int):subst (subst Q wt a b c d (wt+1)) wt a' b' c' d' (wt+1)=subst Q wt (a*a'+b*c') (a*b'+b*d') (c*a'+d*c') (c*b'+d*d') (wt+1):=funext fun j=>subst_subst Q a b c d a' b' c' d' wt j
theorem ph_turn (hck:Pl.check n ((wt:Int)+2) D=0) (hR:RelZ n wt D x) {a b c d:Int} (h:a*d - b*c=1):ph n wt D x Q a b c d+ph n wt D x Q b (-a) d (-c)=0:=by
 obtain⟨⟨a1,a2⟩,_⟩:=Pl.check_ok hck
 have h1:=rel_turn hck hR (det_prim (n:=n) (by omega) h) (subst Q wt a b c d (wt+1))
 rw[sub2,show a*0+b*1=b by omega,show a*(-1)+b*0=-a by omega,show c*0+d*1=d by omega,show c*(-1)+d*0=-c by omega]at h1
 exact h1
theorem ph_third (hck:Pl.check n ((wt:Int)+2) D=0) (hR:RelZ n wt D x) {a b c d:Int} (h:a*d - b*c=1):ph n wt D x Q a b c d+ph n wt D x Q b (-a - b) d (-c - d)+ph n wt D x Q (-a - b) a (-c - d) c=0:=by
 obtain⟨⟨a1,a2⟩,_⟩:=Pl.check_ok hck
 have h1:=rel_third hck hR (det_prim (n:=n) (by omega) h) (subst Q wt a b c d (wt+1))
 rw[sub2,sub2,show a*0+b*1=b by omega,show a*(-1)+b*(-1)=-a - b by omega,show c*0+d*1=d by omega,show c*(-1)+d*(-1)=-c - d by omega,show a*1+b*0=a by omega,show c*1+d*0=c by omega]at h1
 exact h1
theorem ph_neg (hck:Pl.check n ((wt:Int)+2) D=0) (hR:RelZ n wt D x) {a b c d:Int} (h:a*d - b*c=1):ph n wt D x Q (-a) (-b) (-c) (-d)=ph n wt D x Q a b c d:=by
 have h1:=ph_turn (Q:=Q) hck hR h
 have h2:=ph_turn (Q:=Q) hck hR (a:=b) (b:=-a) (c:=d) (d:=-c) (by grind)
 grind
def stepQ (n wt:Nat) (D:Int) (x:Nat→Rat) (Q:Nat→Rat) (y z:Int×Int):Rat:=if z.1*y.2 - y.1*z.2=1 then ph n wt D x Q z.1 y.1 z.2 y.2 else ph n wt D x Q z.1 (-y.1) z.2 (-y.2)
theorem stepQ_ok (hck:Pl.check n ((wt:Int)+2) D=0) (hR:RelZ n wt D x):Steps (stepQ n wt D x Q) where
 anti y z h:=by
  unfold stepQ
  rcases h with h|h
  ·rw[if_pos h,if_neg (by omega)]
   exact ph_turn hck hR (by grind)
  ·rw[if_neg (by omega),if_pos (by omega)]
   have h1:=ph_turn (Q:=Q) hck hR (a:=z.1) (b:=-y.1) (c:=z.2) (d:=-y.2) (by grind)
   have h2:=ph_neg (Q:=Q) hck hR (a:=y.1) (b:=z.1) (c:=y.2) (d:=z.2) (by grind)
   rw[h2]at h1
   exact h1
 tri y z h:=by
  have key:∀ y z:Int×Int,z.1*y.2 - y.1*z.2=1→stepQ n wt D x Q y z+stepQ n wt D x Q z (y.1+z.1,y.2+z.2)+stepQ n wt D x Q (y.1+z.1,y.2+z.2) y=0:=by
   intro y z h
   unfold stepQ
   dsimp only
   rw[if_pos h,if_neg (by grind),if_neg (by grind)]
   have h1:=ph_third (Q:=Q) hck hR (a:=z.1) (b:=y.1) (c:=z.2) (d:=y.2) (by grind)
   have h2:=ph_neg (Q:=Q) hck hR (a:=y.1+z.1) (b:=-z.1) (c:=y.2+z.2) (d:=-z.2) (by grind)
   rw[show -(y.1+z.1)=-z.1 - y.1 by omega,show -(y.2+z.2)=-z.2 - y.2 by omega,Int.neg_neg,Int.neg_neg]at h2
   rw[show -(y.1+z.1)=-z.1 - y.1 by omega,show -(y.2+z.2)=-z.2 - y.2 by omega,← h2]
   grind
  have anti:∀ y z:Int×Int,Nb y z→stepQ n wt D x Q y z+stepQ n wt D x Q z y=0:=by
   intro y z h
   unfold stepQ
   rcases h with h|h
   ·rw[if_pos h,if_neg (by omega)]
    exact ph_turn hck hR (by grind)
   ·rw[if_neg (by omega),if_pos (by omega)]
    have h1:=ph_turn (Q:=Q) hck hR (a:=z.1) (b:=-y.1) (c:=z.2) (d:=-y.2) (by grind)
    have h2:=ph_neg (Q:=Q) hck hR (a:=y.1) (b:=z.1) (c:=y.2) (d:=z.2) (by grind)
    rw[h2]at h1
    exact h1
  rcases h with h|h
  ·exact key y z h
  ·have h1:=key z y (by omega)
   rw[Int.add_comm z.1,Int.add_comm z.2]at h1
   have a1:=anti y z (.inr h)
   have a2:=anti z (y.1+z.1,y.2+z.2) (by unfold Nb;dsimp only;grind)
   have a3:=anti y (y.1+z.1,y.2+z.2) (by unfold Nb;dsimp only;grind)
   grind
end
end Go.Proofs.YtijgdhijdfgpfaaGreatDoor
namespace Go.Proofs.YtijgdhijdfgpfaaGreatDoor
def cfW (p q:Int):List Int:=if _h:0<q then p / q :: cfW q (p % q)else []
termination_by q.toNat
decreasing_by have:=Int.emod_lt_of_pos p (show 0<q by assumption);omega
theorem cfW_zero (p:Int):cfW p 0=[]:=by rw[cfW,dif_neg (by decide)]
theorem cfW_pos {p q:Int} (h:0<q):cfW p q=p / q :: cfW q (p % q):=by rw[cfW,dif_pos h]
def cvL:Int×Int→Int×Int→List Int→List (Int×Int)
 | _,_,[]=>[]
 | b,l,n :: ns=>(n*l.1+b.1,n*l.2+b.2) :: cvL l (n*l.1+b.1,n*l.2+b.2) ns
theorem cvL_length:∀ (ns:List Int) (b l:Int×Int),(cvL b l ns).length=ns.length
 | [],_,_=>rfl
 | n :: ns,b,l=>by rw[cvL,List.length_cons,List.length_cons,cvL_length ns]
def ChOk:List (Int×Int)→Prop
 | a :: b :: r=>Nb a b∧ChOk (b :: r)
 | _=>True
def InC (c:Int×Int):Prop:=-1073741824≤c.1∧c.1≤1073741824∧0≤c.2∧c.2≤1073741824
theorem gcd_rest {p q n r:Int} (h:q*n+r=p) (hg:Int.gcd p q=1):Int.gcd q r=1:=by
 have h1:((Int.gcd q r:Nat):Int)∣q:=Int.gcd_dvd_left ..
 have h2:((Int.gcd q r:Nat):Int)∣r:=Int.gcd_dvd_right ..
 have h3:Int.gcd q r∣Int.gcd p q:=Int.dvd_gcd (by rw[← h];exact Int.dvd_add (Int.dvd_trans h1 (Int.dvd_mul_right _ _)) h2) h1
 rw[hg]at h3
 exact Nat.dvd_one.1 h3
theorem cv_in {p0 q0 a b r e:Int} (hp0:-1073741824≤p0) (hp1:p0≤1073741824) (hq:0<q0) (hb:0≤b) (hb1:b≤q0) (hr:0≤r) (hr1:r<q0) (hc:q0*a - p0*b=r*e) (he:e=1∨e=-1):-1073741824≤a∧a≤1073741824:=by
 have h1:p0*b≤1073741824*q0:=Int.le_trans (Int.mul_le_mul_of_nonneg_right hp1 hb) (Int.mul_le_mul_of_nonneg_left hb1 (by decide))
 have h2:-1073741824*q0≤p0*b:=by
  have h3:=Int.mul_le_mul_of_nonneg_right hp0 hb
  have h4:=Int.mul_le_mul_of_nonneg_left hb1 (show(0:Int)≤1073741824 by decide)
  omega
 have h5:-r≤r*e∧r*e≤r:=by rcases he with rfl|rfl <;> omega
 constructor
 ·rcases Int.lt_or_le a (-1073741824)with h|h
  ·exfalso
   have:=Int.mul_le_mul_of_nonneg_left (show a≤-1073741825 by omega) (Int.le_of_lt hq)
   omega
  ·exact h
 ·rcases Int.lt_or_le 1073741824 a with h|h
  ·exfalso
   have:=Int.mul_le_mul_of_nonneg_left (show 1073741825≤a by omega) (Int.le_of_lt hq)
   omega
  ·exact h
theorem cv_rest {p0 q0:Int} (hp0:-1073741824≤p0) (hp1:p0≤1073741824) (hq1:q0≤1073741824):∀ (j:Nat) (p q:Int) (b l:Int×Int),0≤q→q<p→p*q<2 ^ j→Int.gcd p q=1→l.1*p+b.1*q=p0→l.2*p+b.2*q=q0 →
  (l.1*b.2 - b.1*l.2=1∨l.1*b.2 - b.1*l.2=-1)→1≤l.2→0≤b.2 →
  (cfW p q).length≤j∧(∀ n∈cfW p q,1≤n∧n≤1073741824)∧(∀ c∈cvL b l (cfW p q),InC c∧1≤c.2)∧ChOk (l :: cvL b l (cfW p q))∧(l :: cvL b l (cfW p q)).getLast?=some (p0,q0):=by
 intro j
 induction j with
 | zero=>
  intro p q b l hq hqp hpq hg e1 e2 hd hl hb
  obtain rfl:q=0:=by
   rcases Int.lt_or_eq_of_le hq with h|h
   ·have:=Int.mul_le_mul (show(1:Int)≤p by omega) (show(1:Int)≤q by omega) (by omega) (by omega)
    omega
   ·exact h.symm
  have hp:p=1:=by simp at hg;omega
  subst hp
  have hc:=cfW_zero 1
  rw[hc]
  refine⟨by simp,by simp,by simp[cvL],by simp[cvL,ChOk],?_⟩
  have h1:l=(p0,q0):=Prod.ext (by show l.1=p0;omega) (by show l.2=q0;omega)
  simp[cvL,h1]
 | succ j ih=>
  intro p q b l hq hqp hpq hg e1 e2 hd hl hb
  rcases Int.lt_or_eq_of_le hq with hq0|hq0
  ·have hr0:=Int.emod_nonneg p (show q≠0 by omega)
   have hr1:=Int.emod_lt_of_pos p hq0
   have hdm:=Int.mul_ediv_add_emod p q
   obtain⟨r,hr⟩:∃ r,p % q=r:=⟨_,rfl⟩
   obtain⟨n,hn⟩:∃ n,p / q=n:=⟨_,rfl⟩
   rw[hr]at hr0 hr1 hdm
   rw[hn]at hdm
   have hn1:1≤n:=by
    rcases Int.lt_or_le n 1 with h|h
    ·have:=Int.mul_le_mul_of_nonneg_left (show n≤0 by omega) (show 0≤q by omega)
     omega
    ·exact h
   have hnp:n≤p:=by
    have:=Int.mul_le_mul_of_nonneg_right (show(1:Int)≤q by omega) (show 0≤n by omega)
    omega
   have hqr:q*r<2 ^ j:=by
    have h1:q*q+q*r≤p*q:=by
     have h3:q*q≤q*n*q:=by
      have:=Int.mul_le_mul_of_nonneg_left hn1 (show 0≤q*q from Int.mul_nonneg hq hq)
      calc q*q=q*q*1:=by omega
       _≤q*q*n:=this
       _=q*n*q:=by grind
     have h4:p*q=q*n*q+q*r:=by rw[← hdm];grind
     omega
    have h2:q*r≤q*q:=Int.mul_le_mul_of_nonneg_left (show r≤q by omega) hq
    have h5:(2:Int) ^ (j+1)=2*2 ^ j:=by rw[Int.pow_succ];omega
    omega
   have hg2:Int.gcd q r=1:=gcd_rest hdm hg
   obtain⟨l',hl'⟩:∃ l':Int×Int,l'=(n*l.1+b.1,n*l.2+b.2):=⟨_,rfl⟩
   have l1:l'.1=n*l.1+b.1:=by rw[hl']
   have l2:l'.2=n*l.2+b.2:=by rw[hl']
   have f1:l'.1*q+l.1*r=p0:=by rw[l1,← e1,← hdm];grind
   have f2:l'.2*q+l.2*r=q0:=by rw[l2,← e2,← hdm];grind
   have hl2:1≤l'.2:=by
    have:=Int.mul_le_mul_of_nonneg_right hn1 (show 0≤l.2 by omega)
    omega
   have hd':l'.1*l.2 - l.1*l'.2=1∨l'.1*l.2 - l.1*l'.2=-1:=by
    have:l'.1*l.2 - l.1*l'.2=-(l.1*b.2 - b.1*l.2):=by rw[l1,l2];grind
    omega
   obtain⟨g1,g2,g3,g4,g5⟩:=ih q r l l' hr0 hr1 hqr hg2 f1 f2 hd' hl2 (by omega)
   have hqq0:q<q0:=by
    have h1:=Int.mul_le_mul_of_nonneg_right hl (show 0≤p by omega)
    have h2:=Int.mul_nonneg hb hq
    omega
   have hlq:l'.2≤q0:=by
    have h1:=Int.mul_le_mul_of_nonneg_left (show(1:Int)≤q by omega) (show 0≤l'.2 by omega)
    have h2:=Int.mul_nonneg (show 0≤l.2 by omega) hr0
    omega
   have hpp:p≤q0:=by
    have h1:=Int.mul_le_mul_of_nonneg_right hl (show 0≤p by omega)
    have h2:=Int.mul_nonneg hb hq
    omega
   have hcross:q0*l'.1 - p0*l'.2=r*(l'.1*l.2 - l.1*l'.2):=by rw[← f1,← f2];grind
   have hin:InC l':=by
    have h1:=cv_in hp0 hp1 (by omega) (by omega) hlq hr0 (by omega) hcross hd'
    exact⟨h1.1,h1.2,by omega,by omega⟩
   have hcf:cfW p q=n :: cfW q r:=by rw[cfW_pos hq0,hn,hr]
   have hcv:cvL b l (n :: cfW q r)=l' :: cvL l l' (cfW q r):=by rw[cvL,← hl']
   rw[hcf,hcv]
   refine⟨by rw[List.length_cons];omega,fun x hx=>?_,fun c hc=>?_,⟨?_,g4⟩,?_⟩
   ·rcases List.mem_cons.1 hx with rfl|hx
    ·omega
    ·exact g2 x hx
   ·rcases List.mem_cons.1 hc with rfl|hc
    ·exact⟨hin,hl2⟩
    ·exact g3 c hc
   ·exact hd'
   ·rw[List.getLast?_cons_cons];exact g5
  ·subst hq0
   have hp:p=1:=by simp at hg;omega
   subst hp
   have hc:=cfW_zero 1
   rw[hc]
   refine⟨by simp,by simp,by simp[cvL],by simp[cvL,ChOk],?_⟩
   have h1:l=(p0,q0):=Prod.ext (by show l.1=p0;omega) (by show l.2=q0;omega)
   simp[cvL,h1]
def pthL (x:Int×Int):List (Int×Int):=(1,0) :: if x.2=0 then []else cvL (0,1) (1,0) (cfW x.1 x.2)
theorem cusp_ok {x:Int×Int} (h:cuspE x.1 x.2=0):(-1073741824≤x.1∧x.1≤1073741824)∧(0≤x.2∧x.2≤1073741824)∧Int.gcd x.1 x.2=1∧(x.2=0→x.1=1):=by
 unfold cuspE at h
 split at h
 ·cases h
 ·rename_i h1
  split at h
  ·cases h
  ·rename_i h2
   simp only[inE,Bool.and_eq_false_iff,decide_eq_false_iff_not]at h1
   refine⟨by omega,by omega,by omega,fun e=>by omega⟩
theorem cf_ok {x:Int×Int} (h:cuspE x.1 x.2=0) (hq:x.2≠0):((cfW x.1 x.2).length≤61∧0<(cfW x.1 x.2).length)∧(∀ i n,(cfW x.1 x.2)[i]?=some n→-1073741824≤n∧n≤1073741824∧(0<i→1≤n))∧(∀ c∈cvL (0,1) (1,0) (cfW x.1 x.2),InC c∧1≤c.2)∧ChOk ((1,0) :: cvL (0,1) (1,0) (cfW x.1 x.2))∧((1,0) :: cvL (0,1) (1,0) (cfW x.1 x.2)).getLast?=some x:=by
 obtain⟨⟨p0,p1⟩,⟨q0,q1⟩,hg,_⟩:=cusp_ok h
 obtain⟨p,q⟩:=x
 dsimp only at *
 have hr0:=Int.emod_nonneg p hq
 have hr1:=Int.emod_lt_of_pos p (show 0<q by omega)
 have hdm:=Int.mul_ediv_add_emod p q
 obtain⟨r,hr⟩:∃ r,p % q=r:=⟨_,rfl⟩
 obtain⟨n,hn⟩:∃ n,p / q=n:=⟨_,rfl⟩
 have hcf:cfW p q=n :: cfW q r:=by rw[cfW_pos (by omega),hn,hr]
 rw[hr]at hr0 hr1 hdm
 rw[hn]at hdm
 have hcv:cvL (0,1) (1,0) (n :: cfW q r)=(n,1) :: cvL (1,0) (n,1) (cfW q r):=by
  rw[cvL];simp
 have hn0:-1073741824≤n∧n≤1073741824:=by
  constructor
  ·rcases Int.lt_or_le n (-1073741824)with h|h
   ·exfalso
    have h1:=Int.mul_le_mul_of_nonneg_left (show n≤-1073741825 by omega) (show 0≤q by omega)
    have h2:q*1073741825=q * -1073741825 * -1:=by omega
    omega
   ·exact h
  ·rcases Int.lt_or_le 1073741824 n with h|h
   ·exfalso
    have h1:=Int.mul_le_mul_of_nonneg_left (show 1073741825≤n by omega) (show 0≤q by omega)
    omega
   ·exact h
 have hg2:Int.gcd q r=1:=gcd_rest hdm hg
 have hqr:q*r<2 ^ 60:=by
  have h1:=Int.mul_le_mul (show q≤1073741824 by omega) (show r≤1073741823 by omega) hr0 (by omega)
  have h2:(2:Int) ^ 60=1152921504606846976:=by decide
  omega
 obtain⟨g1,g2,g3,g4,g5⟩:=cv_rest (p0:=p) (q0:=q) p0 p1 q1 60 q r (1,0) (n,1) hr0 hr1 hqr hg2 (by dsimp only;rw[← hdm,Int.mul_comm];omega) (by dsimp only;omega) (by dsimp only;omega) (by dsimp only;omega) (by dsimp only;omega)
 rw[hcf,hcv]
 refine⟨⟨by rw[List.length_cons];omega,by simp⟩,fun i z hz=>?_,fun c hc=>?_,⟨?_,g4⟩,?_⟩
 ·cases i with
  | zero=>simp at hz;subst hz;exact⟨hn0.1,hn0.2,fun h=>absurd h (Nat.lt_irrefl 0)⟩
  | succ i=>
   have h1:=g2 z (List.mem_of_getElem? (by simpa using hz))
   exact⟨by omega,by omega,fun _=>h1.1⟩
 ·rcases List.mem_cons.1 hc with rfl|hc
  ·exact⟨⟨hn0.1,hn0.2,by dsimp only;omega,by dsimp only;omega⟩,by dsimp only;omega⟩
  ·exact g3 c hc
 ·unfold Nb;dsimp only;omega
 ·rw[List.getLast?_cons_cons];exact g5
theorem pth_ok {x:Int×Int} (h:cuspE x.1 x.2=0):(pthL x).length≤62∧(∀ c∈pthL x,InC c∧Gd c)∧ChOk (pthL x)∧(pthL x).getLast?=some x:=by
 have h1:InC ((1,0):Int×Int):=⟨by decide,by decide,by decide,by decide⟩
 unfold pthL
 by_cases hq:x.2=0
 ·rw[if_pos hq]
  have hx:=(cusp_ok h).2.2.2 hq
  refine⟨by simp,fun c hc=>?_,by simp[ChOk],?_⟩
  ·simp at hc;subst hc;exact⟨h1,⟨by decide,fun _=>rfl⟩⟩
  ·have:x=(1,0):=Prod.ext hx hq
   rw[this];rfl
 ·rw[if_neg hq]
  obtain⟨a1,a2,a3,a4,a5⟩:=cf_ok h hq
  refine⟨by rw[List.length_cons,cvL_length];omega,fun c hc=>?_,a4,a5⟩
  rcases List.mem_cons.1 hc with rfl|hc
  ·exact⟨h1,⟨by decide,fun _=>rfl⟩⟩
  ·have h3:=a3 c hc
   exact⟨h3.1,⟨by omega,fun e=>by omega⟩⟩
theorem ChOk.get:∀ {l:List (Int×Int)},ChOk l→∀ (j:Nat) (a b:Int×Int),l[j]?=some a→l[j+1]?=some b→Nb a b
 | [],_,j,a,b,h,_=>by simp at h
 | [c],_,j,a,b,h,h'=>by simp at h'
 | c :: d :: r,h,0,a,b,ha,hb=>by simp at ha hb;subst ha;subst hb;exact h.1
 | c :: d :: r,h,j+1,a,b,ha,hb=>ChOk.get (l:=d :: r) h.2 j a b (by simpa using ha) (by simpa using hb)
structure ChainOk (a b:Int×Int) (ch:List (Int×Int)):Prop where
 len:ch.length≤124
 pos:0<ch.length
 first:ch[0]?=some a
 last:ch[ch.length - 1]?=some b
 good:∀ c∈ch,InC c∧Gd c
 nb:∀ j c d,ch[j]?=some c→ch[j+1]?=some d→Nb c d
theorem joined {a b:Int×Int} (ha:cuspE a.1 a.2=0) (hb:cuspE b.1 b.2=0) {c:Nat} (hc:0<c) (h1:c≤(pthL a).length) (h2:c≤(pthL b).length) (he:∀ j,j<c→(pthL a)[j]?=(pthL b)[j]?):ChainOk a b (((pthL a).drop (c - 1)).reverse++(pthL b).drop c):=by
 obtain⟨a1,a2,a3,a4⟩:=pth_ok ha
 obtain⟨b1,b2,b3,b4⟩:=pth_ok hb
 rw[List.getLast?_eq_getElem?]at a4 b4
 obtain⟨la,hla⟩:∃ la,(pthL a).length=la:=⟨_,rfl⟩
 obtain⟨lb,hlb⟩:∃ lb,(pthL b).length=lb:=⟨_,rfl⟩
 rw[hla]at a1 a4 h1
 rw[hlb]at b1 b4 h2
 have hl:(((pthL a).drop (c - 1)).reverse++(pthL b).drop c).length=(la - (c - 1))+(lb - c):=by simp[hla,hlb]
 have hL:∀ j,j<la - (c - 1)→(((pthL a).drop (c - 1)).reverse++(pthL b).drop c)[j]?=(pthL a)[la - 1 - j]?:=fun j hj=>by
  rw[List.getElem?_append_left (by simp[hla];omega),List.getElem?_reverse (by simp[hla];omega),List.getElem?_drop]
  congr 1
  simp[hla]
  omega
 have hR:∀ j,la - (c - 1)≤j→(((pthL a).drop (c - 1)).reverse++(pthL b).drop c)[j]?=(pthL b)[c+(j - (la - (c - 1)))]?:=fun j hj=>by
  rw[List.getElem?_append_right (by simp[hla];omega),List.getElem?_drop]
  congr 1
  simp[hla]
 refine⟨by rw[hl];omega,by rw[hl];omega,by rw[hL 0 (by omega)];exact a4,?_,fun x hx=>?_,fun j x y hx hy=>?_⟩
 ·rw[hl]
  by_cases h:lb=c
  ·rw[hL _ (by omega),show la - 1 - ((la - (c - 1))+(lb - c) - 1)=c - 1 by omega,he (c - 1) (by omega),← b4,h]
  ·rw[hR _ (by omega),← b4]
   congr 1
   omega
 ·rcases List.mem_append.1 hx with hx|hx
  ·exact a2 x (List.mem_of_mem_drop (List.mem_reverse.1 hx))
  ·exact b2 x (List.mem_of_mem_drop hx)
 ·have hj:j+1<(la - (c - 1))+(lb - c):=by rw[← hl];exact(List.getElem?_eq_some_iff.1 hy).1
  by_cases h3:j+1<la - (c - 1)
  ·rw[hL j (by omega)]at hx
   rw[hL (j+1) h3]at hy
   exact(a3.get (la - 1 - (j+1)) y x hy (by rw[show la - 1 - (j+1)+1=la - 1 - j by omega];exact hx)).symm
  ·by_cases h4:j<la - (c - 1)
   ·rw[hL j h4,show la - 1 - j=c - 1 by omega,he (c - 1) (by omega)]at hx
    rw[hR (j+1) (by omega),show c+(j+1 - (la - (c - 1)))=c - 1+1 by omega]at hy
    exact b3.get (c - 1) x y hx hy
   ·rw[hR j (by omega)]at hx
    rw[hR (j+1) (by omega),show c+(j+1 - (la - (c - 1)))=c+(j - (la - (c - 1)))+1 by omega]at hy
    exact b3.get _ x y hx hy
end Go.Proofs.YtijgdhijdfgpfaaGreatDoor
