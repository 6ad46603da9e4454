/- Merel's matrices, plain: the list that the program makes. No program in sight. -/
import Derived.Test.YtenlbhlllgppmaaGreatDoorB29
set_option linter.unusedSimpArgs false
set_option maxRecDepth 100000
set_option maxHeartbeats 8000000
namespace Go.Proofs.YtenlbhlllgppmaaGreatDoor
section
open Eli
def nM (n a k:Nat):List M4:=(List.range k).map λc:Nat=>((a:Int),(0:Int),(c:Int),((n / a:Nat):Int))
def mN (n a b d0:Nat):Nat->List M4
 | 0=>[]
 | k+1=>if(a*(d0+k) - n) % b=0 then mN n a b d0 k++[((a:Int),(b:Int),(((a*(d0+k) - n) / b:Nat):Int),((d0+k:Nat):Int))]else mN n a b d0 k
def nI (n a:Nat):Nat:=(n+a - 1) / a
def nN (n a b:Nat):Nat:=(n+(a - b) - 1) / (a - b) - nI n a
def nJ (n a:Nat):Nat->List M4
 | 0=>[]
 | k+1=>nJ n a k++mN n a (k+1) (nI n a) (nN n a (k+1))
def nO (n a:Nat):List M4:=if n % a=0 then nM n a (n / a)else []
def mr (n:Nat):Nat->List M4
 | 0=>[]
 | k+1=>(mr n k++nO n (k+1))++nJ n (k+1) k
end
section
open Go.RowKit Eli
def MatsIn (w:World) (v:Value) (L:List M4):Prop:=∃g c,v=.slice (some ⟨g,0,none⟩) L.length c/\g<w.heap.size/\∀t,t<L.length->(w.cell? ⟨g,t*4,none⟩=some (.int .i64 (L.getD t (0,0,0,0)).1)/\w.cell? ⟨g,t*4+1,none⟩=some (.int .i64 (L.getD t (0,0,0,0)).2.1)/\w.cell? ⟨g,t*4+2,none⟩=some (.int .i64 (L.getD t (0,0,0,0)).2.2.1)/\w.cell? ⟨g,t*4+3,none⟩=some (.int .i64 (L.getD t (0,0,0,0)).2.2.2))
theorem MatsIn.keep {w w':World} {v:Value} {L:List M4} (h:MatsIn w v L) (I:Below w.heap.size w w'):MatsIn w' v L:=by
 obtain⟨g,c,e,hg,Y⟩:=h;refine⟨g,c,e,nT hg I.size,λt Z=>?_⟩;obtain⟨J,O,U,V⟩:=Y t Z;exact⟨(I.cell (p:=⟨g,t*4,none⟩) hg).trans J,(I.cell (p:=⟨g,t*4+1,none⟩) hg).trans O,(I.cell (p:=⟨g,t*4+2,none⟩) hg).trans U,(I.cell (p:=⟨g,t*4+3,none⟩) hg).trans V⟩
end
section
open Eli
def Nb (x y:Int×Int):Prop:=y.1*x.2 - x.1*y.2=1∨y.1*x.2 - x.1*y.2=-1
theorem Nb.symm {x y:Int×Int} (h:Nb x y):Nb y x:=by unfold Nb at *;omega
def Gd (x:Int×Int):Prop:=0<=x.2/\(x.2=0->x.1=1)
structure Steps (st:Int×Int->Int×Int->Rat):Prop where
 anti:∀x y,Nb x y->st x y+st y x=0
 tri:∀x y,Nb x y->st x y+st y (x.1+y.1,x.2+y.2)+st (x.1+y.1,x.2+y.2) x=0
noncomputable def par (x:Int×Int):Int×Int:=by
 classical
 exact if h:∃y:Int×Int,y.1*x.2 - x.1*y.2=1/\0<=y.2/\y.2<x.2 then h.choose else(1,0)
theorem R6 {x y z:Int×Int} (J:y.1*x.2 - x.1*y.2=1) (h2:0<=y.2) (h3:y.2<x.2) (Y:z.1*x.2 - x.1*z.2=1) (Z:0<=z.2) (g3:z.2<x.2):y=z:=by
 have e:y.2 - z.2=x.2*(y.1*(y.2 - z.2) - (y.1 - z.1)*y.2):=by
  have h:(y.1 - z.1)*x.2=x.1*(y.2 - z.2):=by grind
  calc y.2 - z.2=(y.1*x.2 - x.1*y.2)*(y.2 - z.2):=by rw[J,Int.one_mul]
   _=x.2*(y.1*(y.2 - z.2)) - (x.1*(y.2 - z.2))*y.2:=by grind
   _=x.2*(y.1*(y.2 - z.2) - (y.1 - z.1)*y.2):=by rw[<-h];grind
 have h0:y.2 - z.2=0:=by
  obtain⟨t,V⟩:∃t,y.1*(y.2 - z.2) - (y.1 - z.1)*y.2=t:=⟨_,rfl⟩
  rw[V]at e;rcases Int.lt_trichotomy t 0 with h|h|h
  ·have:=Int.mul_le_mul_of_nonneg_left (show t<=-1 by omega) (show 0<=x.2 by omega)
   omega
  ·rw[e,h,Int.mul_zero]
  ·have:=Int.mul_le_mul_of_nonneg_left (show 1<=t by omega) (show 0<=x.2 by omega)
   omega
 have I:y.2=z.2:=by omega
 have O:(y.1 - z.1)*x.2=0:=by rw[I]at J;grind
 have U:y.1=z.1:=by
  rcases Int.mul_eq_zero.1 O with h|h <;> omega
 exact Prod.ext U I
theorem iK {x y:Int×Int} (J:y.1*x.2 - x.1*y.2=1) (O:0<=y.2) (U:y.2<x.2):par x=y:=by
 have I:∃y:Int×Int,y.1*x.2 - x.1*y.2=1/\0<=y.2/\y.2<x.2:=⟨y,J,O,U⟩
 unfold par;rw[dif_pos I];have h:=I.choose_spec;exact R6 h.1 h.2.1 h.2.2 J O U
noncomputable def pot (st:Int×Int->Int×Int->Rat):Nat->Int×Int->Rat
 | 0,_=>0
 | k+1,x=>if 0<x.2/\(par x).2<x.2 then pot st k (par x)+st (par x) x else 0
noncomputable def Pot (st:Int×Int->Int×Int->Rat) (x:Int×Int):Rat:=pot st x.2.toNat x
theorem Zt (st:Int×Int->Int×Int->Rat):∀(k:Nat) (x:Int×Int),x.2.toNat<=k->pot st k x=Pot st x:=by
 intro k;induction k using Nat.strongRecOn with
 | _ k ih=>
  intro x U;unfold Pot;rcases Nat.eq_zero_or_pos k with J|J
  ·rw[J,show x.2.toNat=0 by omega]
  ·obtain⟨m,rfl⟩:∃m,k=m+1:=⟨k - 1,by omega⟩
   rcases Nat.eq_zero_or_pos x.2.toNat with I|I
   ·have e:pot st (m+1) x=0:=by rw[pot,if_neg (by omega)]
    rw[I,e];rfl
   ·obtain⟨l,O⟩:∃l,x.2.toNat=l+1:=⟨x.2.toNat - 1,by omega⟩
    rw[O,pot,pot];by_cases h:0<x.2/\(par x).2<x.2
    ·rw[if_pos h,if_pos h,ih m (by omega) (par x) (by omega),ih l (by omega) (par x) (by omega)]
    ·rw[if_neg h,if_neg h]
theorem Ck {st:Int×Int->Int×Int->Rat} {x y:Int×Int} (J:y.1*x.2 - x.1*y.2=1) (O:0<=y.2) (I:y.2<x.2):Pot st x=Pot st y+st y x:=by
 have V:=iK J O I;obtain⟨l,U⟩:∃l,x.2.toNat=l+1:=⟨x.2.toNat - 1,by omega⟩
 unfold Pot;rw[U,pot,V,if_pos ⟨by omega,I⟩,Zt st l y (by omega)];rfl
theorem Steps.diff {st:Int×Int->Int×Int->Rat} (h:Steps st):∀(N:Nat) (x y:Int×Int),Gd x->Gd y->Nb x y->(x.2+y.2).toNat<=N->st x y=Pot st y - Pot st x:=by
 intro N;induction N with
 | zero=>
  intro x y U Y hn hN;exfalso;have e1:x.2=0:=by have:=U.1;have:=Y.1;omega
  have e2:y.2=0:=by have:=U.1;have:=Y.1;omega
  unfold Nb at hn;rw[e1,e2]at hn;simp at hn
 | succ N ih=>
  have bE:∀x y:Int×Int,Gd x->Gd y->Nb x y->(x.2+y.2).toNat<=N+1->x.2<=y.2->st x y=Pot st y - Pot st x:=by
   intro x y U Y hn hN O;have cD:=U.1;rcases Int.lt_or_eq_of_le O with hlt|cC
   ·rcases hn with hd|hd
    ·
     have hB:x.2≠0:=λe=>by
      have J:=U.2 e;rw[e,J]at hd;omega
     obtain⟨z,hz⟩:∃z:Int×Int,z=(y.1 - x.1,y.2 - x.2):=⟨_,rfl⟩
     have z1:z.1=y.1 - x.1:=by rw[hz]
     have z2:z.2=y.2 - x.2:=by rw[hz]
     have cF:z.1*y.2 - y.1*z.2=1:=by rw[z1,z2];grind
     have hP:=Ck (st:=st) cF (by omega) (by omega);have bC:Nb z x:=.inr (by rw[z1,z2];grind);have hs:(z.1+x.1,z.2+x.2)=y:=Prod.ext (by show z.1+x.1=y.1;omega) (by show z.2+x.2=y.2;omega);have Z:=h.tri z x bC;rw[hs]at Z;have hA:=h.anti z y (.inr (by grind));have hI:=ih z x ⟨by omega,λe=>by omega⟩ U bC (by omega);grind
    ·
     have hP:=Ck (st:=st) (x:=y) (y:=x) (by omega) cD hlt;grind
   ·
    have hq:y.2=1:=by
     have J:y.2*(y.1 - x.1)=1∨y.2*(y.1 - x.1)=-1:=by
      unfold Nb at hn;rw[cC]at hn;rcases hn with hn|hn
      ·left;rw[<-hn];grind
      ·right;rw[<-hn];grind
     have h2:y.2∣1:=by
      rcases J with J|J
      ·exact⟨_,J.symm⟩
      ·exact⟨-(y.1 - x.1),by rw[Int.mul_neg,J];rfl⟩
     have h3:=Int.le_of_dvd (by decide) h2;have h4:y.2≠0:=λe=>by rw[e]at J;simp at J
     omega
    have V:x.2=1:=by omega
    obtain⟨I,ho⟩:∃I:Int×Int,I=(1,0):=⟨_,rfl⟩
    have o1:I.1=1:=by rw[ho]
    have o2:I.2=0:=by rw[ho]
    have gS:=Ck (st:=st) (x:=x) (y:=I) (by rw[o1,o2,V];omega) (by omega) (by omega);have gU:=Ck (st:=st) (x:=y) (y:=I) (by rw[o1,o2,hq];omega) (by omega) (by omega);have gP:Pot st I=0:=by unfold Pot;rw[o2];rfl
    have aX:Nb I x:=.inr (by rw[o1,o2,V];omega);have bA:Nb I y:=.inr (by rw[o1,o2,hq];omega);have hA:=h.anti x y hn;have gF:=h.anti I x aX;have gL:=h.anti I y bA;have J:y.1=x.1+1∨x.1=y.1+1:=by unfold Nb at hn;rw[hq,V]at hn;omega
    rcases J with J|J
    ·have hs:(I.1+x.1,I.2+x.2)=y:=Prod.ext (by show I.1+x.1=y.1;omega) (by show I.2+x.2=y.2;omega)
     have Z:=h.tri I x aX;rw[hs]at Z;grind
    ·have hs:(I.1+y.1,I.2+y.2)=x:=Prod.ext (by show I.1+y.1=x.1;omega) (by show I.2+y.2=x.2;omega)
     have Z:=h.tri I y bA;rw[hs]at Z;grind
  intro x y U Y hn hN;rcases Int.le_total x.2 y.2 with O|O
  ·exact bE x y U Y hn hN O
  ·have J:=bE y x Y U hn.symm (by rw[Int.add_comm];exact hN) O
   have h2:=h.anti x y hn;grind
theorem Steps.chain {st:Int×Int->Int×Int->Rat} (h:Steps st) (ch:Nat->Int×Int):∀k,(∀j,j<=k->Gd (ch j))->(∀j,j<k->Nb (ch j) (ch (j+1)))->sumQ (λj=>st (ch j) (ch (j+1))) k=Pot st (ch k) - Pot st (ch 0)
 | 0,_,_=>by show(0:Rat)=_;grind
 | k+1,hg,hn=>by
  rw[sumQ,h.chain ch k (λj I=>hg j (by omega)) (λj I=>hn j (by omega)),h.diff _ _ _ (hg k (by omega)) (hg (k+1) (by omega)) (hn k (by omega)) (nR _)];grind
def ph (n wt:Nat) (D:Int) (x:Nat->Rat) (Q:Nat->Rat) (a b c d:Int):Rat:=cP n wt x (Al n D c d) (subst Q wt a b c d (wt+1))
theorem Dl {n:Nat} {a b c d:Int} (hn:0<n) (h:a*d - b*c=1):E6 n (Iz n c d)=true:=by
 refine Zv hn ?_
 have I:((Int.gcd c d:Nat):Int)∣1:=by
  rw[<-h];exact Int.dvd_sub (Int.dvd_trans (Int.gcd_dvd_right ..) (Int.dvd_mul_left _ _)) (Int.dvd_trans (Int.gcd_dvd_left ..) (Int.dvd_mul_left _ _))
 have J:(Int.gcd c d)∣1:=Int.natCast_dvd_natCast.1 I;exact Nat.dvd_one.1 J
section
variable {n wt:Nat} {D:Int} {x:Nat->Rat} {Q:Nat->Rat}
theorem I8 (a b c d I J O U:Int):subst (subst Q wt a b c d (wt+1)) wt I J O U (wt+1)=subst Q wt (a*I+b*O) (a*J+b*U) (c*I+d*O) (c*J+d*U) (wt+1):=funext λj=>Qu Q a b c d I J O U wt j
theorem Gp (I:Pl.check n ((wt:Int)+2) D=0) (O:RelZ n wt D x) {a b c d:Int} (h:a*d - b*c=1):ph n wt D x Q a b c d+ph n wt D x Q b (-a) d (-c)=0:=by
 obtain⟨⟨U,V⟩,_⟩:=Pl.check_ok I;have J:=Z1 I O (Dl (n:=n) (by omega) h) (subst Q wt a b c d (wt+1));rw[I8,show a*0+b*1=b by omega,show a*(-1)+b*0=-a by omega,show c*0+d*1=d by omega,show c*(-1)+d*0=-c by omega]at J;exact J
theorem Zn (I:Pl.check n ((wt:Int)+2) D=0) (O:RelZ n wt D x) {a b c d:Int} (h:a*d - b*c=1):ph n wt D x Q a b c d+ph n wt D x Q b (-a - b) d (-c - d)+ph n wt D x Q (-a - b) a (-c - d) c=0:=by
 obtain⟨⟨U,V⟩,_⟩:=Pl.check_ok I;have J:=Vt I O (Dl (n:=n) (by omega) h) (subst Q wt a b c d (wt+1));rw[I8,I8,show a*0+b*1=b by omega,show a*(-1)+b*(-1)=-a - b by omega,show c*0+d*1=d by omega,show c*(-1)+d*(-1)=-c - d by omega,show a*1+b*0=a by omega,show c*1+d*0=c by omega]at J;exact J
theorem Ld (I:Pl.check n ((wt:Int)+2) D=0) (J:RelZ n wt D x) {a b c d:Int} (h:a*d - b*c=1):ph n wt D x Q (-a) (-b) (-c) (-d)=ph n wt D x Q a b c d:=by
 have O:=Gp (Q:=Q) I J h;have U:=Gp (Q:=Q) I J (a:=b) (b:=-a) (c:=d) (d:=-c) (by grind);grind
def Ah (n wt:Nat) (D:Int) (x:Nat->Rat) (Q:Nat->Rat) (y z:Int×Int):Rat:=if z.1*y.2 - y.1*z.2=1 then ph n wt D x Q z.1 y.1 z.2 y.2 else ph n wt D x Q z.1 (-y.1) z.2 (-y.2)
theorem Lm (I:Pl.check n ((wt:Int)+2) D=0) (O:RelZ n wt D x):Steps (Ah n wt D x Q) where
 anti y z h:=by
  unfold Ah;rcases h with h|h
  ·rw[if_pos h,if_neg (by omega)]
   exact Gp I O (by grind)
  ·rw[if_neg (by omega),if_pos (by omega)]
   have J:=Gp (Q:=Q) I O (a:=z.1) (b:=-y.1) (c:=z.2) (d:=-y.2) (by grind);have U:=Ld (Q:=Q) I O (a:=y.1) (b:=z.1) (c:=y.2) (d:=z.2) (by grind);rw[U]at J;exact J
 tri y z h:=by
  have V:∀y z:Int×Int,z.1*y.2 - y.1*z.2=1->Ah n wt D x Q y z+Ah n wt D x Q z (y.1+z.1,y.2+z.2)+Ah n wt D x Q (y.1+z.1,y.2+z.2) y=0:=by
   intro y z h;unfold Ah;dsimp only;rw[if_pos h,if_neg (by grind),if_neg (by grind)];have J:=Zn (Q:=Q) I O (a:=z.1) (b:=y.1) (c:=z.2) (d:=y.2) (by grind);have U:=Ld (Q:=Q) I O (a:=y.1+z.1) (b:=-z.1) (c:=y.2+z.2) (d:=-z.2) (by grind);rw[show -(y.1+z.1)=-z.1 - y.1 by omega,show -(y.2+z.2)=-z.2 - y.2 by omega,Int.neg_neg,Int.neg_neg]at U;rw[show -(y.1+z.1)=-z.1 - y.1 by omega,show -(y.2+z.2)=-z.2 - y.2 by omega,<-U];grind
  have anti:∀y z:Int×Int,Nb y z->Ah n wt D x Q y z+Ah n wt D x Q z y=0:=by
   intro y z h;unfold Ah;rcases h with h|h
   ·rw[if_pos h,if_neg (by omega)]
    exact Gp I O (by grind)
   ·rw[if_neg (by omega),if_pos (by omega)]
    have J:=Gp (Q:=Q) I O (a:=z.1) (b:=-y.1) (c:=z.2) (d:=-y.2) (by grind);have U:=Ld (Q:=Q) I O (a:=y.1) (b:=z.1) (c:=y.2) (d:=z.2) (by grind);rw[U]at J;exact J
  rcases h with h|h
  ·exact V y z h
  ·have J:=V z y (by omega)
   rw[Int.add_comm z.1,Int.add_comm z.2]at J;have Y:=anti y z (.inr h);have Z:=anti z (y.1+z.1,y.2+z.2) (by unfold Nb;dsimp only;grind);have a3:=anti y (y.1+z.1,y.2+z.2) (by unfold Nb;dsimp only;grind);grind
end
end
def Gj (p q:Int):List Int:=if _h:0<q then p / q :: Gj q (p % q)else []
termination_by q.toNat
decreasing_by have:=Int.emod_lt_of_pos p (show 0<q by assumption);omega
theorem Ks (p:Int):Gj p 0=[]:=by rw[Gj,dif_neg (by decide)]
theorem Ny {p q:Int} (h:0<q):Gj p q=p / q :: Gj q (p % q):=by rw[Gj,dif_pos h]
def Gz:Int×Int->Int×Int->List Int->List (Int×Int)
 | _,_,[]=>[]
 | b,l,n :: ns=>(n*l.1+b.1,n*l.2+b.2) :: Gz l (n*l.1+b.1,n*l.2+b.2) ns
theorem Hc:∀(I:List Int) (b l:Int×Int),(Gz b l I).length=I.length
 | [],_,_=>rfl
 | n :: I,b,l=>by rw[Gz,List.length_cons,List.length_cons,Hc I]
def ChOk:List (Int×Int)->Prop
 | a :: b :: r=>Nb a b/\ChOk (b :: r)
 | _=>True
def InC (c:Int×Int):Prop:=-1073741824<=c.1/\c.1<=1073741824/\0<=c.2/\c.2<=1073741824
theorem Ps {p q n r:Int} (h:q*n+r=p) (hg:Int.gcd p q=1):Int.gcd q r=1:=by
 have I:((Int.gcd q r:Nat):Int)∣q:=Int.gcd_dvd_left ..;have O:((Int.gcd q r:Nat):Int)∣r:=Int.gcd_dvd_right ..;have J:Int.gcd q r∣Int.gcd p q:=Int.dvd_gcd (by rw[<-h];exact Int.dvd_add (Int.dvd_trans I (Int.dvd_mul_right _ _)) O) I;rw[hg]at J;exact Nat.dvd_one.1 J
theorem kI {p0 q0 a b r e:Int} (J:-1073741824<=p0) (O:p0<=1073741824) (hq:0<q0) (U:0<=b) (I:b<=q0) (hr:0<=r) (Y:r<q0) (hc:q0*a - p0*b=r*e) (V:e=1∨e=-1):-1073741824<=a/\a<=1073741824:=by
 have Z:p0*b<=1073741824*q0:=Int.le_trans (Int.mul_le_mul_of_nonneg_right O U) (Int.mul_le_mul_of_nonneg_left I (by decide))
 have h2:-1073741824*q0<=p0*b:=by
  have h3:=Int.mul_le_mul_of_nonneg_right J U;have h4:=Int.mul_le_mul_of_nonneg_left I (show(0:Int)<=1073741824 by decide);omega
 have h5:-r<=r*e/\r*e<=r:=by rcases V with rfl|rfl <;> omega
 constructor
 ·rcases Int.lt_or_le a (-1073741824)with h|h
  ·exfalso
   have:=Int.mul_le_mul_of_nonneg_left (show a<=-1073741825 by omega) (Int.le_of_lt hq);omega
  ·exact h
 ·rcases Int.lt_or_le 1073741824 a with h|h
  ·exfalso
   have:=Int.mul_le_mul_of_nonneg_left (show 1073741825<=a by omega) (Int.le_of_lt hq);omega
  ·exact h
theorem cY {p0 q0:Int} (dC:-1073741824<=p0) (dE:p0<=1073741824) (hN:q0<=1073741824):∀(j:Nat) (p q:Int) (b l:Int×Int),0<=q->q<p->p*q<2 ^ j->Int.gcd p q=1->l.1*p+b.1*q=p0->l.2*p+b.2*q=q0 ->
  (l.1*b.2 - b.1*l.2=1∨l.1*b.2 - b.1*l.2=-1)->1<=l.2->0<=b.2 ->
  (Gj p q).length<=j/\(∀n∈Gj p q,1<=n/\n<=1073741824)/\(∀c∈Gz b l (Gj p q),InC c/\1<=c.2)/\ChOk (l :: Gz b l (Gj p q))/\(l :: Gz b l (Gj p q)).getLast?=some (p0,q0):=by
 intro j;induction j with
 | zero=>
  intro p q b l hq eP dY hg e1 e2 hd hl hb
  obtain rfl:q=0:=by
   rcases Int.lt_or_eq_of_le hq with h|h
   ·have:=Int.mul_le_mul (show(1:Int)<=p by omega) (show(1:Int)<=q by omega) (by omega) (by omega)
    omega
   ·exact h.symm
  have hp:p=1:=by simp at hg;omega
  subst hp;have Z:=Ks 1;rw[Z];refine⟨by simp,by simp,by simp[Gz],by simp[Gz,ChOk],?_⟩;have O:l=(p0,q0):=Prod.ext (by show l.1=p0;omega) (by show l.2=q0;omega);simp[Gz,O]
 | succ j ih=>
  intro p q b l hq eP dY hg e1 e2 hd hl hb;rcases Int.lt_or_eq_of_le hq with V|V
  ·have Y:=Int.emod_nonneg p (show q≠0 by omega)
   have bE:=Int.emod_lt_of_pos p V;have J:=Int.mul_ediv_add_emod p q;obtain⟨r,hr⟩:∃r,p % q=r:=⟨_,rfl⟩
   obtain⟨n,hn⟩:∃n,p / q=n:=⟨_,rfl⟩
   rw[hr]at Y bE J;rw[hn]at J
   have bC:1<=n:=by
    rcases Int.lt_or_le n 1 with h|h
    ·have:=Int.mul_le_mul_of_nonneg_left (show n<=0 by omega) (show 0<=q by omega)
     omega
    ·exact h
   have hL:n<=p:=by
    have:=Int.mul_le_mul_of_nonneg_right (show(1:Int)<=q by omega) (show 0<=n by omega);omega
   have gA:q*r<2 ^ j:=by
    have O:q*q+q*r<=p*q:=by
     have h3:q*q<=q*n*q:=by
      have:=Int.mul_le_mul_of_nonneg_left bC (show 0<=q*q from Int.mul_nonneg hq hq)
      calc q*q=q*q*1:=by omega
       _<=q*q*n:=this
       _=q*n*q:=by grind
     have h4:p*q=q*n*q+q*r:=by rw[<-J];grind
     omega
    have h2:q*r<=q*q:=Int.mul_le_mul_of_nonneg_left (show r<=q by omega) hq;have h5:(2:Int) ^ (j+1)=2*2 ^ j:=by rw[Int.pow_succ];omega
    omega
   have cD:Int.gcd q r=1:=Ps J hg;obtain⟨I,bA⟩:∃I:Int×Int,I=(n*l.1+b.1,n*l.2+b.2):=⟨_,rfl⟩
   have l1:I.1=n*l.1+b.1:=by rw[bA]
   have l2:I.2=n*l.2+b.2:=by rw[bA]
   have f1:I.1*q+l.1*r=p0:=by rw[l1,<-e1,<-J];grind
   have f2:I.2*q+l.2*r=q0:=by rw[l2,<-e2,<-J];grind
   have bB:1<=I.2:=by
    have:=Int.mul_le_mul_of_nonneg_right bC (show 0<=l.2 by omega);omega
   have aX:I.1*l.2 - l.1*I.2=1∨I.1*l.2 - l.1*I.2=-1:=by
    have:I.1*l.2 - l.1*I.2=-(l.1*b.2 - b.1*l.2):=by rw[l1,l2];grind
    omega
   obtain⟨g1,g2,g3,g4,g5⟩:=ih q r l I Y bE gA cD f1 f2 aX bB (by omega)
   have gU:q<q0:=by
    have O:=Int.mul_le_mul_of_nonneg_right hl (show 0<=p by omega);have h2:=Int.mul_nonneg hb hq;omega
   have cT:I.2<=q0:=by
    have O:=Int.mul_le_mul_of_nonneg_left (show(1:Int)<=q by omega) (show 0<=I.2 by omega);have h2:=Int.mul_nonneg (show 0<=l.2 by omega) Y;omega
   have hM:p<=q0:=by
    have O:=Int.mul_le_mul_of_nonneg_right hl (show 0<=p by omega);have h2:=Int.mul_nonneg hb hq;omega
   have U:q0*I.1 - p0*I.2=r*(I.1*l.2 - l.1*I.2):=by rw[<-f1,<-f2];grind
   have cF:InC I:=by
    have O:=kI dC dE (by omega) (by omega) cT Y (by omega) U aX;exact⟨O.1,O.2,by omega,by omega⟩
   have cB:Gj p q=n :: Gj q r:=by rw[Ny V,hn,hr]
   have cC:Gz b l (n :: Gj q r)=I :: Gz l I (Gj q r):=by rw[Gz,<-bA]
   rw[cB,cC];refine⟨by rw[List.length_cons];omega,λx hx=>?_,λc Z=>?_,⟨?_,g4⟩,?_⟩
   ·rcases List.mem_cons.1 hx with rfl|hx
    ·omega
    ·exact g2 x hx
   ·rcases List.mem_cons.1 Z with rfl|Z
    ·exact⟨cF,bB⟩
    ·exact g3 c Z
   ·exact aX
   ·rw[List.getLast?_cons_cons];exact g5
  ·subst V
   have hp:p=1:=by simp at hg;omega
   subst hp;have Z:=Ks 1;rw[Z];refine⟨by simp,by simp,by simp[Gz],by simp[Gz,ChOk],?_⟩;have O:l=(p0,q0):=Prod.ext (by show l.1=p0;omega) (by show l.2=q0;omega);simp[Gz,O]
def Cw (x:Int×Int):List (Int×Int):=(1,0) :: if x.2=0 then []else Gz (0,1) (1,0) (Gj x.1 x.2)
theorem Jp {x:Int×Int} (h:At x.1 x.2=0):(-1073741824<=x.1/\x.1<=1073741824)/\(0<=x.2/\x.2<=1073741824)/\Int.gcd x.1 x.2=1/\(x.2=0->x.1=1):=by
 unfold At at h;split at h
 ·cases h
 ·rename_i h1
  split at h
  ·cases h
  ·rename_i h2
   simp only[Io,Bool.and_eq_false_iff,decide_eq_false_iff_not]at h1;refine⟨by omega,by omega,by omega,λe=>by omega⟩
theorem Xt {x:Int×Int} (h:At x.1 x.2=0) (hq:x.2≠0):((Gj x.1 x.2).length<=61/\0<(Gj x.1 x.2).length)/\(∀i n,(Gj x.1 x.2)[i]?=some n->-1073741824<=n/\n<=1073741824/\(0<i->1<=n))/\(∀c∈Gz (0,1) (1,0) (Gj x.1 x.2),InC c/\1<=c.2)/\ChOk ((1,0) :: Gz (0,1) (1,0) (Gj x.1 x.2))/\((1,0) :: Gz (0,1) (1,0) (Gj x.1 x.2)).getLast?=some x:=by
 obtain⟨⟨p0,p1⟩,⟨q0,q1⟩,hg,_⟩:=Jp h;obtain⟨p,q⟩:=x;dsimp only at *;have O:=Int.emod_nonneg p hq;have U:=Int.emod_lt_of_pos p (show 0<q by omega);have I:=Int.mul_ediv_add_emod p q;obtain⟨r,hr⟩:∃r,p % q=r:=⟨_,rfl⟩
 obtain⟨n,hn⟩:∃n,p / q=n:=⟨_,rfl⟩
 have Z:Gj p q=n :: Gj q r:=by rw[Ny (by omega),hn,hr]
 rw[hr]at O U I;rw[hn]at I
 have aX:Gz (0,1) (1,0) (n :: Gj q r)=(n,1) :: Gz (1,0) (n,1) (Gj q r):=by
  rw[Gz];simp
 have J:-1073741824<=n/\n<=1073741824:=by
  constructor
  ·rcases Int.lt_or_le n (-1073741824)with h|h
   ·exfalso
    have V:=Int.mul_le_mul_of_nonneg_left (show n<=-1073741825 by omega) (show 0<=q by omega);have h2:q*1073741825=q * -1073741825 * -1:=by omega
    omega
   ·exact h
  ·rcases Int.lt_or_le 1073741824 n with h|h
   ·exfalso
    have V:=Int.mul_le_mul_of_nonneg_left (show 1073741825<=n by omega) (show 0<=q by omega);omega
   ·exact h
 have bA:Int.gcd q r=1:=Ps I hg
 have bB:q*r<2 ^ 60:=by
  have V:=Int.mul_le_mul (show q<=1073741824 by omega) (show r<=1073741823 by omega) O (by omega);have h2:(2:Int) ^ 60=1152921504606846976:=by decide
  omega
 obtain⟨g1,g2,g3,g4,g5⟩:=cY (p0:=p) (q0:=q) p0 p1 q1 60 q r (1,0) (n,1) O U bB bA (by dsimp only;rw[<-I,Int.mul_comm];omega) (by dsimp only;omega) (by dsimp only;omega) (by dsimp only;omega) (by dsimp only;omega);rw[Z,aX];refine⟨⟨by rw[List.length_cons];omega,by simp⟩,λi z hz=>?_,λc Y=>?_,⟨?_,g4⟩,?_⟩
 ·cases i with
  | zero=>simp at hz;subst hz;exact⟨J.1,J.2,λh=>absurd h (Nat.lt_irrefl 0)⟩
  | succ i=>
   have V:=g2 z (List.mem_of_getElem? (by simpa using hz));exact⟨by omega,by omega,λ_=>V.1⟩
 ·rcases List.mem_cons.1 Y with rfl|Y
  ·exact⟨⟨J.1,J.2,by dsimp only;omega,by dsimp only;omega⟩,by dsimp only;omega⟩
  ·exact g3 c Y
 ·unfold Nb;dsimp only;omega
 ·rw[List.getLast?_cons_cons];exact g5
theorem Og {x:Int×Int} (h:At x.1 x.2=0):(Cw x).length<=62/\(∀c∈Cw x,InC c/\Gd c)/\ChOk (Cw x)/\(Cw x).getLast?=some x:=by
 have J:InC ((1,0):Int×Int):=⟨by decide,by decide,by decide,by decide⟩
 unfold Cw;by_cases hq:x.2=0
 ·rw[if_pos hq]
  have Z:=(Jp h).2.2.2 hq;refine⟨by simp,λc I=>?_,by simp[ChOk],?_⟩
  ·simp at I;subst I;exact⟨J,⟨by decide,λ_=>rfl⟩⟩
  ·have:x=(1,0):=Prod.ext Z hq
   rw[this];rfl
 ·rw[if_neg hq]
  obtain⟨a1,a2,O,U,V⟩:=Xt h hq;refine⟨by rw[List.length_cons,Hc];omega,λc I=>?_,U,V⟩;rcases List.mem_cons.1 I with rfl|I
  ·exact⟨J,⟨by decide,λ_=>rfl⟩⟩
  ·have Y:=O c I
   exact⟨Y.1,⟨by omega,λe=>by omega⟩⟩
theorem ChOk.get:∀{l:List (Int×Int)},ChOk l->∀(j:Nat) (a b:Int×Int),l[j]?=some a->l[j+1]?=some b->Nb a b
 | [],_,j,a,b,h,_=>by simp at h
 | [c],_,j,a,b,h,h'=>by simp at h'
 | c :: d :: r,h,0,a,b,ha,hb=>by simp at ha hb;subst ha;subst hb;exact h.1
 | c :: d :: r,h,j+1,a,b,ha,hb=>ChOk.get (l:=d :: r) h.2 j a b (by simpa using ha) (by simpa using hb)
structure ChainOk (a b:Int×Int) (ch:List (Int×Int)):Prop where
 len:ch.length<=124
 pos:0<ch.length
 first:ch[0]?=some a
 last:ch[ch.length - 1]?=some b
 good:∀c∈ch,InC c/\Gd c
 nb:∀j c d,ch[j]?=some c->ch[j+1]?=some d->Nb c d
theorem Ry {a b:Int×Int} (ha:At a.1 a.2=0) (hb:At b.1 b.2=0) {c:Nat} (hc:0<c) (h1:c<=(Cw a).length) (h2:c<=(Cw b).length) (he:∀j,j<c->(Cw a)[j]?=(Cw b)[j]?):ChainOk a b (((Cw a).drop (c - 1)).reverse++(Cw b).drop c):=by
 obtain⟨a1,a2,a3,a4⟩:=Og ha;obtain⟨b1,b2,b3,b4⟩:=Og hb;rw[List.getLast?_eq_getElem?]at a4 b4;obtain⟨I,J⟩:∃I,(Cw a).length=I:=⟨_,rfl⟩
 obtain⟨V,Z⟩:∃V,(Cw b).length=V:=⟨_,rfl⟩
 rw[J]at a1 a4 h1;rw[Z]at b1 b4 h2;have hl:(((Cw a).drop (c - 1)).reverse++(Cw b).drop c).length=(I - (c - 1))+(V - c):=by simp[J,Z]
 have Y:∀j,j<I - (c - 1)->(((Cw a).drop (c - 1)).reverse++(Cw b).drop c)[j]?=(Cw a)[I - 1 - j]?:=λj hj=>by
  rw[List.getElem?_append_left (by simp[J];omega),List.getElem?_reverse (by simp[J];omega),List.getElem?_drop];congr 1;simp[J];omega
 have hR:∀j,I - (c - 1)<=j->(((Cw a).drop (c - 1)).reverse++(Cw b).drop c)[j]?=(Cw b)[c+(j - (I - (c - 1)))]?:=λj hj=>by
  rw[List.getElem?_append_right (by simp[J];omega),List.getElem?_drop];congr 1;simp[J]
 refine⟨by rw[hl];omega,by rw[hl];omega,by rw[Y 0 (by omega)];exact a4,?_,λx O=>?_,λj x y O U=>?_⟩
 ·rw[hl]
  by_cases h:V=c
  ·rw[Y _ (by omega),show I - 1 - ((I - (c - 1))+(V - c) - 1)=c - 1 by omega,he (c - 1) (by omega),<-b4,h]
  ·rw[hR _ (by omega),<-b4]
   congr 1;omega
 ·rcases List.mem_append.1 O with O|O
  ·exact a2 x (List.mem_of_mem_drop (List.mem_reverse.1 O))
  ·exact b2 x (List.mem_of_mem_drop O)
 ·have hj:j+1<(I - (c - 1))+(V - c):=by rw[<-hl];exact(List.getElem?_eq_some_iff.1 U).1
  by_cases h3:j+1<I - (c - 1)
  ·rw[Y j (by omega)]at O
   rw[Y (j+1) h3]at U;exact(a3.get (I - 1 - (j+1)) y x U (by rw[show I - 1 - (j+1)+1=I - 1 - j by omega];exact O)).symm
  ·by_cases h4:j<I - (c - 1)
   ·rw[Y j h4,show I - 1 - j=c - 1 by omega,he (c - 1) (by omega)]at O
    rw[hR (j+1) (by omega),show c+(j+1 - (I - (c - 1)))=c - 1+1 by omega]at U;exact b3.get (c - 1) x y O U
   ·rw[hR j (by omega)]at O
    rw[hR (j+1) (by omega),show c+(j+1 - (I - (c - 1)))=c+(j - (I - (c - 1)))+1 by omega]at U;exact b3.get _ x y O U
section
open Go.RowKit Tryz
def OwnI (l:List Int) (w:World) (B:Nat) (v:Value):Prop:=OwnK NotU32 w B 3 1 v l.length (l.map (Value.int .i64))
def cusps (l:List (Int×Int)):List Value:=l.flatMap λc=>[.int .i64 c.1,.int .i64 c.2]
def OwnC (l:List (Int×Int)) (w:World) (B:Nat) (v:Value):Prop:=OwnK NotU32 w B 47 2 v l.length (cusps l)
theorem OwnI.push {l:List Int} {w':World} {B:Nat} {I:Value} {a:Int} (h:OwnK NotU32 w' B 3 1 I (l.length+1) (l.map (Value.int .i64)++[.int .i64 a])):OwnI (l++[a]) w' B I:=by
 unfold OwnI;rw[List.length_append,List.map_append];exact h
theorem OwnC.push {l:List (Int×Int)} {w':World} {B:Nat} {I:Value} {a:Int×Int} (h:OwnK NotU32 w' B 47 2 I (l.length+1) (cusps l++[.int .i64 a.1,.int .i64 a.2])):OwnC (l++[a]) w' B I:=by
 unfold OwnC cusps at *;rw[List.length_append,List.flatMap_append];exact h
theorem Ix:∀(l:List (Int×Int)) (j:Nat) (c:Int×Int),l[j]?=some c->(cusps l)[j*2]?=some (.int .i64 c.1)/\(cusps l)[j*2+1]?=some (.int .i64 c.2)
 | [],j,c,h=>by simp at h
 | x :: l,0,c,h=>by simp at h;subst h;exact⟨rfl,rfl⟩
 | x :: l,j+1,c,h=>by
  have J:=Ix l j c (by simpa using h);have I:(j+1)*2=j*2+1+1:=by omega
  unfold cusps at *;rw[List.flatMap_cons,I];exact J
theorem Cy:∀l:List (Int×Int),(cusps l).length=l.length*2
 | []=>rfl
 | x :: l=>by
  have I:=Cy l;unfold cusps at *;rw[List.flatMap_cons,List.length_append,I,List.length_cons];show 2+l.length*2=(l.length+1)*2;omega
theorem Wt (p q:Int) (w:World) (h:At p q=0) (dC:q≠0):
  Calls prog 157 #[.agg #[.int .i64 p,.int .i64 q]] w λe w'=>(∃v,e=.returned (.tuple #[v,.int .i64 0])/\OwnI (Gj p q) w' w.heap.size v)/\Below w.heap.size w w':=by
 obtain⟨⟨p1,p2⟩,⟨q1,q2⟩,_,_⟩:=Jp (x:=(p,q)) h;dsimp only at p1 p2 q1 q2;have eP:=Kh (λw1=>Dk p q w1 (by omega) (by omega) (by omega) (by omega));rw[h]at eP;obtain⟨L,hL⟩:∃L,Gj p q=L:=⟨_,rfl⟩
 have HL:=Kh hL;have hE:=Kh (show L.length<=61 from hL▸(Xt (x:=(p,q)) h dC).1.1);rw[hL];have gL:=Kh (show(-1073741824<=p/\p<=1073741824)/\0<q/\q<=1073741824 by omega);have HN:=Kh (OwnK.nil NotU32 w w.heap.size 3 1);clear h hL p1 p2 q1 q2;have hJ:(q==0)=false:=by rw[beq_eq_false_iff_ne];exact dC
 go_enter func157,ntmps157
 go_wp2_with fail
 obtain⟨w0,gP,X0,cF⟩:=bx1 w #[.int .i64 p,.int .i64 q] 47;rw[gP];refine(eP.1 w0).mono ?_;rintro e w1 ⟨rfl,cG⟩;have X1:=X0.below_ cG X0.lt;have x0:=X1.at_ 0 rfl;have x1:=X1.at_ 1 rfl;have dY:=Kh (cF.trans (cG.mono cF.size));clear gP X0 cF cG X1;go_upto_region 7 with(fail)
 go_quiet (fail)
 have cB:=Kh (show Below w.heap.size w (w1.drewN nq)from Aa dY.1 nq);generalize w1.drewN nq=w2 at cB ⊢;have gF:=Kh (show OwnI [] w2 w.heap.size (.slice none 0 0)from OwnK.nil NotU32 w2 w.heap.size 3 1);clear x0 x1 dY HN dC hJ;go_wp2_with fail
 go_loopw [5,6,7] (λvl vp vq wr=>∃(Z:List Int) (P Q:Int),vp=.int .i64 P/\vq=.int .i64 Q/\OwnI Z wr w.heap.size vl/\Below w.heap.size w wr/\Hd (Z++Gj P Q=L/\(-1073741824<=P/\P<=1073741824)/\0<=Q/\Q<=1073741824)) (λ_ _ q _=>(intOf q).toNat)
 case atStart=>exact⟨[],p,q,rfl,rfl,gF.1,cB.1,Kh ⟨HL.1,gL.1.1,by have:=gL.1;omega⟩⟩
 case round=>
  obtain⟨Z,P,Q,rfl,rfl,cA,gN,U⟩:=hrel;obtain⟨wi,rfl⟩:∃wi:World,wi=wr:=⟨_,rfl⟩
  have HO:=Kh cA;have HB:=Kh gN;have Y:=HB.1.size;clear cA gN gF cB;by_cases hQ:Q=0
  ·have HF:=Kh (show OwnI L wi w.heap.size u5 by
    have h1:=U.1.1;rw[hQ,Ks,List.append_nil]at h1;rw[<-h1];exact HO.1)
   subst hQ;clear U Y HO;go_wp2
   (first|go_ret2|go_ret)
   exact⟨⟨_,rfl,HF.1⟩,HB.1⟩
  ·have bB:0<Q:=by have:=U.1;omega
   have O:=U.1.1;rw[Ny bB]at O;have cT:=Int.emod_nonneg P hQ;have cX:=Int.emod_lt_of_pos P bB;have bE:=Int.mul_ediv_add_emod P Q;obtain⟨R,hR⟩:∃R,P % Q=R:=⟨_,rfl⟩
   obtain⟨N,hN⟩:∃N,P / Q=N:=⟨_,rfl⟩
   rw[hR]at cT cX bE O;rw[hN]at bE O;have gA:=Kh (show(Z++[N])++Gj Q R=L by rw[<-O];simp)
   have gS:Z.length+1<=61:=by
    have h1:=hE.1;rw[<-O]at h1;simp at h1;omega
   have bA:=Kh gS;have aX:=Kh (show 0<=R/\R<Q from⟨cT,cX⟩);obtain⟨T,hT⟩:∃T,P.tmod Q=T:=⟨_,rfl⟩
   have bC:(if T<0 then T+Q else T)=R:=by
    rw[<-hT,<-hR];have h1:=Int.tmod_eq_emod (a:=P) (b:=Q);have h4:=Int.emod_lt_of_pos P bB;have h5:=Int.emod_nonneg P hQ;split at h1 <;> split <;> omega
   have mB:-1073741824<=T/\T<=1073741824:=by have:=U.1;split at bC <;> omega
   have mC:(P - R).tdiv Q=N:=by
    rw[<-bE,Int.add_sub_cancel];exact Int.mul_tdiv_cancel_left N hQ
   have iL:-2147483648<=P - R/\P - R<=2147483648:=by have:=U.1;omega
   have hZ:-2147483648<=N/\N<=2147483648:=by
    have h1:=U.1;constructor
    ·rcases Int.lt_or_le N (-2147483648)with h|h
     ·have:=Int.mul_le_mul_of_nonneg_left (show N<=-2147483649 by omega) (show 0<=Q by omega)
      omega
     ·exact h
    ·rcases Int.lt_or_le 2147483648 N with h|h
     ·have:=Int.mul_le_mul_of_nonneg_left (show 2147483649<=N by omega) (show 0<=Q by omega)
      omega
     ·exact h
   have nC:IntKind.i64.wrap R=R:=IntWalk.i64_in _ (by have:=U.1;omega);have nD:IntKind.i64.wrap (P - R)=P - R:=IntWalk.i64_in _ (by omega);have nW:IntKind.i64.wrap N=N:=IntWalk.i64_in _ (by omega);clear cT cX bE O gS hN hR bB;by_cases hT0:T<0
   ·rw[if_pos hT0]at bC
    go_wp2_with (at_builtin;refine B9 NotU32 rfl (.tmp 31) (.tmp 37) _ 3 rfl underlying93 Fc rfl (by decide) w.heap.size Z.length u5 (Z.map (Value.int .i64)) [.int .i64 N] rfl HO.1 rfl rfl (Tj N) (by have:=bA.1;omega) (by have:=bA.1;omega) Y (Ti N) Zk ?_;intro v3 w3 I J V;have cD:=Kh (OwnI.push I);have cC:=Kh (A7 HB.1 HO.1.1 J (nR _) Y);clear I J V)
    go_roundw
    case rel=>exact⟨Z++[N],Q,R,rfl,rfl,cD.1,cC.1,Kh ⟨gA.1,by have:=U.1;omega,by have:=U.1;have:=aX.1;omega⟩⟩
    case measure=>have:=aX.1;simp[intOf];omega
   ·rw[if_neg hT0]at bC
    obtain rfl:R=T:=bC.symm;go_wp2_with (at_builtin;refine B9 NotU32 rfl (.tmp 31) (.tmp 37) _ 3 rfl underlying93 Fc rfl (by decide) w.heap.size Z.length u5 (Z.map (Value.int .i64)) [.int .i64 N] rfl HO.1 rfl rfl (Tj N) (by have:=bA.1;omega) (by have:=bA.1;omega) Y (Ti N) Zk ?_;intro v3 w3 I J V;have cD:=Kh (OwnI.push I);have cC:=Kh (A7 HB.1 HO.1.1 J (nR _) Y);clear I J V)
    go_roundw
    case rel=>exact⟨Z++[N],Q,R,rfl,rfl,cD.1,cC.1,Kh ⟨gA.1,by have:=U.1;omega,by have:=U.1;have:=aX.1;omega⟩⟩
    case measure=>have:=aX.1;simp[intOf];omega
theorem OwnC.low {l:List (Int×Int)} {w:World} {B B':Nat} {v:Value} (h:OwnC l w B v) (hB:B'<=B):OwnC l w B' v:=⟨h.1.mono hB,h.2⟩
theorem L0 (Z:List Int) (g cap:Nat) (w:World) (h0:0<Z.length) (gP:Z.length<=64) (hg:g<w.heap.size) (hc:∀(i:Nat) (n:Int),Z[i]?=some n->w.cell? ⟨g,i,none⟩=some (.int .i64 n))
  (hr:∀(i:Nat) (n:Int),Z[i]?=some n->-1073741824<=n/\n<=1073741824/\(0<i->1<=n)) (hW:∀c∈Gz (0,1) (1,0) Z,InC c):
  Calls prog 158 #[.slice (some ⟨g,0,none⟩) Z.length cap] w λe w'=>(∃v,e=.returned (.tuple #[v,.int .i64 0])/\OwnC (Gz (0,1) (1,0) Z) w' w.heap.size v)/\Below w.heap.size w w':=by
 obtain⟨N,hN⟩:∃N,Z.length=N:=⟨_,rfl⟩
 have oE:=Kh hN;have HC:=Kh (λW (hb:Below w.heap.size w W) (i:Nat) (n:Int) (hi:Z[i]?=some n)=>(show W.cell? ⟨g,i,none⟩=some (.int .i64 n)from(hb.cell (p:=⟨g,i,none⟩) hg).trans (hc i n hi)));have HR:=Kh hr;have oD:=Kh hW;have hG:=Kh (show ∀i,i<N->∃n,Z[i]?=some n from λi hi=>⟨_,List.getElem?_eq_getElem (by omega)⟩);rw[hN]at h0 gP ⊢;have pN:¬(N:Int)=0:=by omega
 have pO:¬(64:Int)<(N:Int):=by omega
 have eP:=Kh gP;clear hc hr hW hg gP hN;go_enter func158,ntmps158
 go_wp2_with fail
 go_loopw [19] (λii wr=>∃i:Nat,i<=N/\ii=.int .i64 i/\wr=w) (λii _=>N - (intOf ii).toNat)
 case atStart=>exact⟨0,Nat.zero_le _,rfl,rfl⟩
 case round=>
  obtain⟨i,hi,rfl,mC⟩:=hrel;obtain rfl:w=wr:=mC.symm;clear mC;by_cases hlt:i<N
  ·obtain⟨n,hn⟩:=hG.1 i hlt
   have hV:=HC.1 w (Below.refl _ w) i n hn;have bC:=HR.1 i n hn;have oQ:Io n=true:=Du.2 ⟨bC.1,bC.2.1⟩;have oP:(i:Int)<(N:Int):=by omega
   have oG:=Kh (show 0<i->1<=n from bC.2.2);clear hn bC;go_wp2_with fail
   refine(W7 n w).mono ?_;rintro e w' ⟨rfl,bA⟩;obtain rfl:w=w':=bA.symm;rw[oQ];by_cases hi0:i=0
   ·subst hi0
    go_wp2;go_roundw
    case rel=>exact⟨0+1,by omega,by go_num,by first|rfl|trivial⟩
    case measure=>simp[intOf];omega
   ·have pQ:(0:Int)<(i:Int):=by omega
    have pR:0<i:=by omega
    have pS:¬n<1:=by have:=oG.1 (by omega);omega
    go_wp2;go_roundw
    case rel=>exact⟨i+1,by omega,by go_num,by first|rfl|trivial⟩
    case measure=>simp[intOf];omega
  ·obtain rfl:N=i:=by omega
   go_wp2_with fail
   obtain⟨w2,mB,XA,XB,gU⟩:=bx2 w #[.int .i64 0,.int .i64 1] 47 #[.int .i64 1,.int .i64 0] 47;rw[mB];obtain⟨ga,hB⟩:∃x,w.heap.size=x:=⟨_,rfl⟩
   obtain⟨gb,hD⟩:∃x,w.heap.size+1=x:=⟨_,rfl⟩
   have hI:=Kh hB;have hJ:=Kh hD;rw[hD]at XB ⊢;rw[hB]at XA ⊢;have HA:=Kh XA;have hH:=Kh XB;have dC:=Kh gU;obtain⟨B2,hS⟩:∃x,w2.heap.size=x:=⟨_,rfl⟩
   have bB:=Kh (show ga<B2/\gb<B2/\w.heap.size<=B2 by have h1:=XA.lt;have h2:=XB.lt;have h3:=gU.size;omega);have hO:=Kh hS;clear mB XA XB gU hB hD hlt hS;go_loopw [6,40] (λvl ii wr=>∃(i:Nat) (b l:Int×Int) (O:List (Int×Int)),i<=N/\ii=.int .i64 i/\OwnC O wr B2 vl/\B2<=wr.heap.size/\Blk wr ga 47 #[.int .i64 b.1,.int .i64 b.2]/\Blk wr gb 47 #[.int .i64 l.1,.int .i64 l.2]/\Below w.heap.size w wr/\Hd (O++Gz b l (Z.drop i)=Gz (0,1) (1,0) Z/\O.length=i/\(-1073741824<=b.1/\b.1<=1073741824/\-1073741824<=b.2/\b.2<=1073741824)/\(-1073741824<=l.1/\l.1<=1073741824/\-1073741824<=l.2/\l.2<=1073741824))) (λ_ ii _=>N - (intOf ii).toNat)
   case atStart=>exact⟨0,(0,1),(1,0),[],Nat.zero_le _,rfl,OwnK.nil NotU32 w2 B2 47 2,Nat.le_of_eq hO.1.symm,HA.1,hH.1,dC.1,Kh ⟨rfl,rfl,by decide,by decide⟩⟩
   case round=>
    obtain⟨i,⟨U,V⟩,⟨I,J⟩,O,hi,rfl,gA,bE,hA,gS,hU,HI⟩:=hrel;dsimp only at hA gS HI;obtain⟨wi,rfl⟩:∃wi:World,wi=wr:=⟨_,rfl⟩
    have HO:=Kh gA;have h:=Kh hA;have aX:=Kh gS;have HB:=Kh hU;have gF:=Kh bE;clear gA hA gS hU HA hH dC hO bE;by_cases hlt:i<N
    ·obtain⟨n,hn⟩:=hG.1 i hlt
     have hV:=HC.1 wi HB.1 i n hn;have bC:=HR.1 i n hn;have oP:(i:Int)<(N:Int):=by omega
     obtain⟨e1,e2,e3,e4⟩:=HI.1
     have hX:Z.drop i=n :: Z.drop (i+1):=by
      obtain⟨iL,e⟩:=List.getElem?_eq_some_iff.1 hn;rw[List.drop_eq_getElem_cons iL,e]
     rw[hX,Gz]at e1;dsimp only at e1;have mA:InC (n*I+U,n*J+V):=oD.1 _ (by rw[<-e1];exact List.mem_append_right _ (List.mem_cons_self ..));obtain⟨m1,m2,m3,m4⟩:=mA;dsimp only at m1 m2 m3 m4;have oR:-1073741824 - 1073741824<=n*I/\n*I<=1073741824+1073741824:=by omega
     have oS:-1073741824 - 1073741824<=n*J/\n*J<=1073741824+1073741824:=by omega
     have oT:IntKind.i64.wrap (n*I)=n*I:=IntWalk.i64_in _ (by omega);have oU:IntKind.i64.wrap (n*J)=n*J:=IntWalk.i64_in _ (by omega);have oV:IntKind.i64.wrap (n*I+U)=n*I+U:=IntWalk.i64_in _ (by omega);have oW:IntKind.i64.wrap (n*J+V)=n*J+V:=IntWalk.i64_in _ (by omega);have HE:=Kh (show(O++[(n*I+U,n*J+V)])++Gz (I,J) (n*I+U,n*J+V) (Z.drop (i+1))=Gz (0,1) (1,0) Z by rw[<-e1];simp);have oB:=Kh (show(O++[(n*I+U,n*J+V)]).length=i+1/\(-1073741824<=I/\I<=1073741824/\-1073741824<=J/\J<=1073741824)/\(-1073741824<=n*I+U/\n*I+U<=1073741824/\-1073741824<=n*J+V/\n*J+V<=1073741824)from⟨by simp[e2],e4,m1,m2,by omega,m4⟩);have hM:=Kh e2;have hY:Io (n*I+U)=true:=Du.2 ⟨m1,m2⟩;have hZ:Io (n*J+V)=true:=Du.2 ⟨by omega,m4⟩;clear e1 e2 e3 e4 hX m1 m2 m3 m4 oR oS bC hn HI;have a0:=h.1.at_ 0 rfl;have a1:=h.1.at_ 1 rfl;have b0:=aX.1.at_ 0 rfl;have oI:=aX.1.at_ 1 rfl;have oK:=h.1.free_ 0;have oL:=h.1.free_ 1;have oM:=aX.1.free_ 0;have oN:=aX.1.free_ 1;have cC:ga≠gb:=by have:=hI.1;have:=hJ.1;omega
     go_upto_region 16 with(fail)
     go_region
     have XA:=(h.1.set_ 0 (.int .i64 I)).set_ 1 (.int .i64 J);have cD:w.heap.size<=ga:=Nat.le_of_eq hI.1;have cF:w.heap.size<=gb:=by have:=hJ.1;omega
     have gN:=((XA.far_ (p:=⟨gb,0,none⟩) cC (.int .i64 (n*I+U))).far_ (p:=⟨gb,1,none⟩) cC (.int .i64 (n*J+V))).drew_;have cB:=((((aX.1.far_ (p:=⟨ga,0,none⟩) (λe=>cC e.symm) (.int .i64 I)).far_ (p:=⟨ga,1,none⟩) (λe=>cC e.symm) (.int .i64 J)).set_ 0 (.int .i64 (n*I+U))).set_ 1 (.int .i64 (n*J+V))).drew_;obtain⟨ws,cT⟩:∃ws,((((wi.setCell ⟨ga,0,none⟩ (.int .i64 I)).setCell ⟨ga,1,none⟩ (.int .i64 J)).setCell ⟨gb,0,none⟩ (.int .i64 (n*I+U))).setCell ⟨gb,1,none⟩ (.int .i64 (n*J+V))).drew=ws:=⟨_,rfl⟩
     rw[cT]at gN cB ⊢;have oC:=Kh (show Below w.heap.size w ws from cT▸((((HB.1.setCell (p:=⟨ga,0,none⟩) cD _).setCell (p:=⟨ga,1,none⟩) cD _).setCell (p:=⟨gb,0,none⟩) cF _).setCell (p:=⟨gb,1,none⟩) cF _).drew)
     have dE:=Kh (show OwnC O ws B2 u6 by
      obtain⟨q1,q2,q3⟩:=bB.1;rw[<-cT];have h1:=(((OwnK.other (a:=⟨ga,0,none⟩) HO.1 q1 (int_i64 I)).other (a:=⟨ga,1,none⟩) q1 (int_i64 J)).other (a:=⟨gb,0,none⟩) q2 (int_i64 (n*I+U))).other (a:=⟨gb,1,none⟩) q2 (int_i64 (n*J+V));exact h1.keep (Below.refl _ _).drew)
     have bE:B2<=ws.heap.size:=by rw[<-cT];simpa using gF.1
     have nY:=Kh gN;have dC:=Kh cB;have c0:=cB.at_ 0 rfl;have c1:=cB.at_ 1 rfl;clear XA gN cB cT a0 a1 b0 oI oK oL oM oN cC hV h aX HO HB gF oT oU oV oW cD cF;go_wp2_with fail
     refine(W7 (n*I+U) ws).mono ?_;rintro e w' ⟨rfl,bA⟩;obtain rfl:ws=w':=bA.symm;rw[hY];clear bA;go_wp2_with fail
     refine(W7 (n*J+V) ws).mono ?_;rintro e w' ⟨rfl,bA⟩;obtain rfl:ws=w':=bA.symm;rw[hZ];clear bA;go_wp2_with (at_builtin;refine B9 NotU32 rfl (.tmp 70) (.tmp 72) _ 47 rfl underlying128 F0 rfl (by decide) B2 O.length u6 (cusps O) [.int .i64 (n*I+U),.int .i64 (n*J+V)] rfl dE.1 rfl rfl (eO _ _) (by have:=hM.1;have:=eP.1;omega) (by have:=hM.1;have:=eP.1;omega) bE (eN _ _) Th ?_;intro v3 w3 cG Y hT;have oF:=Kh (OwnC.push (a:=(n*I+U,n*J+V)) cG);have oA:=Kh (A7 oC.1 dE.1.1 Y bB.1.2.2 (nS bB.1.2.2 bE));have nZ:=Kh (nY.1.grown_ Y (λe=>by have:=Cn dE.1.1 e;have:=bB.1.1;omega));have hP:=Kh (dC.1.grown_ Y (λe=>by have:=Cn dE.1.1 e;have:=bB.1.2.1;omega));have oH:=Kh (nS bE Y.size);clear cG Y hT)
     go_roundw
     case rel=>exact⟨i+1,(I,J),(n*I+U,n*J+V),_,by omega,by go_num,oF.1,oH.1,nZ.1,hP.1,oA.1,Kh ⟨HE.1,oB.1⟩⟩
     case measure=>simp[intOf];omega
    ·obtain rfl:N=i:=by omega
     have HF:=Kh (show OwnC (Gz (0,1) (1,0) Z) wi w.heap.size u6 by
      have h1:=HI.1.1;rw[List.drop_eq_nil_of_le (by have:=oE.1;omega),Gz,List.append_nil]at h1;rw[<-h1];exact HO.1.low bB.1.2.2)
     clear HI HO hlt gF h aX;go_wp2
     (first|go_ret2|go_ret)
     exact⟨⟨_,rfl,HF.1⟩,HB.1⟩
theorem OwnI.at_ {l:List Int} {w:World} {B:Nat} {v:Value} (h:OwnI l w B v) (I:0<l.length):∃g cap,v=.slice (some ⟨g,0,none⟩) l.length cap/\g<w.heap.size/\∀(i:Nat) (n:Int),l[i]?=some n->w.cell? ⟨g,i,none⟩=some (.int .i64 n):=by
 obtain⟨g,cap,e,_,_,_,hlt,_,J⟩:=Zl h I;exact⟨g,cap,e,hlt,λi n O=>J i _ (by rw[List.getElem?_map,O];rfl)⟩
theorem Gk:∀(l:List (Int×Int)),∀u∈cusps l,NotU32 u/\u.oneCell'=true
 | [],u,h=>by cases h
 | x :: l,u,h=>by
  unfold cusps at h;rw[List.flatMap_cons]at h;rcases List.mem_append.1 h with h|h
  ·simp at h
   rcases h with rfl|rfl <;> exact⟨int_i64 _,rfl⟩
  ·exact Gk l u h
theorem W0 (p q:Int) (w:World) (h:At p q=0):
  Calls prog 112 #[.agg #[.int .i64 p,.int .i64 q]] w λe w'=>(∃v,e=.returned (.tuple #[v,.int .i64 0])/\OwnC (Cw (p,q)) w' w.heap.size v)/\Below w.heap.size w w':=by
 by_cases hq0:q=0
 ·subst hq0
  obtain rfl:p=1:=(Jp (x:=(p,0)) h).2.2.2 rfl;have e:Cw ((1:Int),(0:Int))=[(1,0)]:=by unfold Cw;rw[if_pos rfl]
  rw[e];exact W3 w
 ·obtain⟨k1,k2,k3,k4,k5⟩:=Xt (x:=(p,q)) h hq0
  dsimp only at k1 k2 k3;have ep:Cw (p,q)=[(1,0)]++Gz (0,1) (1,0) (Gj p q):=by unfold Cw;rw[if_neg hq0];rfl
  rw[ep];have bA:=Kh (λW=>Wt p q W h hq0);have V:=Kh (λg cap W hg hc=>L0 (Gj p q) g cap W k1.2 (by omega) hg hc k2 (λc hc=>(k3 c hc).1));have Y:=Hc (Gj p q) (0,1) (1,0);obtain⟨L,hL⟩:∃L,Gj p q=L:=⟨_,rfl⟩
  obtain⟨C,hC⟩:∃C,Gz (0,1) (1,0) L=C:=⟨_,rfl⟩
  rw[hL]at k1 bA V Y ⊢;rw[hC]at V Y ⊢;have HK:=Kh (show 0<L.length/\L.length<=61/\C.length=L.length from⟨k1.2,k1.1,Y⟩);clear k1 k2 k3 k4 k5 hL hC Y ep h hq0;go_enter func112,ntmps112
  go_wp2_with fail
  obtain⟨w2,cT,_,XB,bB⟩:=bx2 w #[.int .i64 p,.int .i64 q] 47 #[.int .i64 1,.int .i64 0] 47;rw[cT];refine(bA.1 w2).mono ?_;rintro e w3 ⟨⟨v,rfl,aX⟩,bC⟩;obtain⟨g,cap,rfl,hlt,J⟩:=aX.at_ HK.1.1;have HC:=Kh (V.1 g cap w3 hlt J);have HO:=Kh (Tm (B:=w.heap.size) (XB.below_ bC XB.lt) (by omega));have HB:=Kh (bB.trans (bC.mono bB.size));clear cT XB bB bC aX J hlt;go_wp2_with fail
  refine HC.1.mono ?_;rintro e w4 ⟨⟨v4,rfl,O⟩,bE⟩;obtain⟨g4,cD,rfl,_,_,_,_,_,I⟩:=Zl O (by have:=HK.1;omega);have dC:=Kh (show ∀(j:Nat) u,(cusps C)[j]?=some u->w4.cell? ⟨g4,j,none⟩=some u from I);have cC:=Kh (HO.1.keep bE);have cA:=bt HB bE;have cG:=cA.1.size;clear O I bE HO HB HC V bA;go_wp2_with (at_builtin;refine Im NotU32 rfl (.tmp 27) (.tmp 28) _ 47 rfl underlying128 F0 rfl (by decide) w.heap.size 1 C.length g4 cD _ [.int .i64 1,.int .i64 0] (cusps C) rfl cC.1 rfl (Cy C) dC.1 (λu hu=>(Gk C u hu).2) (by have:=HK.1;omega) (by have:=HK.1;omega) (by have:=HK.1;omega) cG (λu hu=>(Gk C u hu).1) Th ?_;intro v5 w5 U Z cF;have dE:=Kh U;have cX:=Kh (A7 cA.1 cC.1.1 Z (nR _) cG);clear U Z cF)
  (first|go_ret2|go_ret)
  have h5:OwnC ((1,0) :: C) w5 w.heap.size v5:=by
   unfold OwnC;rw[List.length_cons,Nat.add_comm];exact dE.1
  exact⟨⟨v5,rfl,h5⟩,cX.1⟩
def CAt (w:World) (g o:Nat) (l:List (Int×Int)):Prop:=∀(j:Nat) (c:Int×Int),l[j]?=some c->w.cell? ⟨g,o+j*2,none⟩=some (.int .i64 c.1)/\w.cell? ⟨g,o+j*2+1,none⟩=some (.int .i64 c.2)
def rv (l:List (Int×Int)) (i j:Nat):Option (Int×Int):=if j<i∨l.length<=i+j then l[l.length - 1 - j]? else l[j]?
theorem Lg {w:World} {g a:Nat} {u:Value} (h:(w.cell? ⟨g,a,none⟩).isSome=true):(w.setCell ⟨g,a,none⟩ u).cell? ⟨g,a,none⟩=some u:=World.cell?_setCell_same' _ _ _ h
theorem C6 {w:World} {g a b:Nat} {u:Value} (h:a≠b):(w.setCell ⟨g,a,none⟩ u).cell? ⟨g,b,none⟩=w.cell? ⟨g,b,none⟩:=World.cell?_setCell_other _ _ _ _ (by simp[h])
theorem Ie {w:World} {g a b:Nat} {u:Value} (I:(w.cell? ⟨g,a,none⟩).isSome=true):((w.setCell ⟨g,a,none⟩ u).cell? ⟨g,b,none⟩).isSome=(w.cell? ⟨g,b,none⟩).isSome:=by
 by_cases h:a=b
 ·subst h;rw[Lg I,I];rfl
 ·rw[C6 h]
theorem Ur (l:List (Int×Int)) (g o cap:Nat) (w:World) (hl:l.length<=1000) (h:CAt w g o l) (hf:∀i,w.frozen? ⟨g,i,none⟩=false) (h0:0<l.length):
  Calls prog 113 #[.slice (some ⟨g,o,none⟩) l.length cap] w λe w'=>(∃v,e=.returned v)/\CAt w' g o l.reverse/\(∀i,w'.frozen? ⟨g,i,none⟩=false)/\w'.heap.size=w.heap.size/\(∀i,i<o∨o+l.length*2<=i->w'.cell? ⟨g,i,none⟩=w.cell? ⟨g,i,none⟩)/\(∀i,(w'.cell? ⟨g,i,none⟩).isSome=(w.cell? ⟨g,i,none⟩).isSome)/\(∀B,B<=g->Below B w w')/\∀b,b≠g->w'.heap[b]?=w.heap[b]?:=by
 obtain⟨N,hN⟩:∃N,l.length=N:=⟨_,rfl⟩
 have HN:=Kh hN;have HL:=Kh hl;rw[hN]at hl h0;rw[hN];have HA:=Kh h;have HF:=Kh hf;have nD:IntKind.i64.wrap ((N:Int) - 1)=(N:Int) - 1:=IntWalk.i64_in _ (by omega);clear hN h hf;go_enter func113,ntmps113
 go_wp2_with fail
 go_loopw [2,3] (λvi vj wr=>∃(i:Nat) (j:Int),vi=.int .i64 i/\vj=.int .i64 j/\j=(N:Int) - 1 - i/\Hd (2*i<=N+1/\(∀(k:Nat) (c:Int×Int),k<N->rv l i k=some c->wr.cell? ⟨g,o+k*2,none⟩=some (.int .i64 c.1)/\wr.cell? ⟨g,o+k*2+1,none⟩=some (.int .i64 c.2))/\(∀i,wr.frozen? ⟨g,i,none⟩=false)/\wr.heap.size=w.heap.size/\(∀i,i<o∨o+N*2<=i->wr.cell? ⟨g,i,none⟩=w.cell? ⟨g,i,none⟩)/\(∀i,(wr.cell? ⟨g,i,none⟩).isSome=(w.cell? ⟨g,i,none⟩).isSome)/\(∀B,B<=g->Below B w wr)/\∀b,b≠g->wr.heap[b]?=w.heap[b]?)) (λ_ j _=>(intOf j).toNat)
 case atStart=>
  refine⟨0,(N:Int) - 1,rfl,rfl,by omega,Kh ⟨by omega,λk c hk hc=>?_,HF.1,rfl,λ_ _=>rfl,λ_=>rfl,λB _=>Below.refl B w,λ_ _=>rfl⟩⟩;have e:rv l 0 k=l[k]?:=by unfold rv;rw[if_neg (by have:=HN.1;omega)]
  rw[e]at hc;exact HA.1 k c hc
 case round=>
  obtain⟨i,j,rfl,rfl,hj,Y⟩:=hrel;obtain⟨Z,rfl⟩:∃Z:World,Z=wr:=⟨_,rfl⟩
  by_cases hlt:(i:Int)<j
  ·obtain⟨m,rfl⟩:∃m:Nat,j=(m:Int):=⟨j.toNat,by omega⟩
   have bE:N=i+m+1:=by omega
   have nB:i<m:=by omega
   have hH:i<N:=by omega
   have hJ:m<N:=by omega
   have nA:(i:Int)<(N:Int):=by omega
   have nC:(m:Int)<(N:Int):=by omega
   have oC:IntKind.i64.wrap ((m:Int) - 1)=(m:Int) - 1:=IntWalk.i64_in _ (by omega);obtain⟨⟨p1,q1⟩,cA⟩:∃c,l[i]?=some c:=⟨_,List.getElem?_eq_getElem (by have:=HN.1;omega)⟩
   obtain⟨⟨p2,q2⟩,cB⟩:∃c,l[m]?=some c:=⟨_,List.getElem?_eq_getElem (by have:=HN.1;omega)⟩
   have gL:=Kh cA;have gN:=Kh cB;obtain⟨x0,x1⟩:=Y.1.2.1 i (p1,q1) hH (by unfold rv;rw[if_neg (by have:=HN.1;omega)];exact cA);obtain⟨y0,y1⟩:=Y.1.2.1 m (p2,q2) hJ (by unfold rv;rw[if_neg (by have:=HN.1;omega)];exact cB);dsimp only at x0 x1 y0 y1;have f0:=Y.1.2.2.1 (o+i*2);have f1:=Y.1.2.2.1 (o+i*2+1);have f2:=Y.1.2.2.1 (o+m*2);have f3:=Y.1.2.2.1 (o+m*2+1);have gS:=Kh bE;clear cA cB hj bE;go_upto_region 3 with(fail)
   go_region
   have s0:(Z.cell? ⟨g,o+i*2,none⟩).isSome=true:=by rw[x0];rfl
   have s1:(Z.cell? ⟨g,o+i*2+1,none⟩).isSome=true:=by rw[x1];rfl
   have s2:(Z.cell? ⟨g,o+m*2,none⟩).isSome=true:=by rw[y0];rfl
   have s3:(Z.cell? ⟨g,o+m*2+1,none⟩).isSome=true:=by rw[y1];rfl
   obtain⟨wa,V⟩:∃x,Z.setCell ⟨g,o+i*2,none⟩ (.int .i64 p2)=x:=⟨_,rfl⟩
   obtain⟨wb,U⟩:∃x,wa.setCell ⟨g,o+i*2+1,none⟩ (.int .i64 q2)=x:=⟨_,rfl⟩
   obtain⟨wc,J⟩:∃x,wb.setCell ⟨g,o+m*2,none⟩ (.int .i64 p1)=x:=⟨_,rfl⟩
   obtain⟨O,I⟩:∃x,wc.setCell ⟨g,o+m*2+1,none⟩ (.int .i64 q1)=x:=⟨_,rfl⟩
   have bB:∀b,(O.cell? ⟨g,b,none⟩).isSome=(Z.cell? ⟨g,b,none⟩).isSome/\(wc.cell? ⟨g,b,none⟩).isSome=(Z.cell? ⟨g,b,none⟩).isSome/\(wb.cell? ⟨g,b,none⟩).isSome=(Z.cell? ⟨g,b,none⟩).isSome/\(wa.cell? ⟨g,b,none⟩).isSome=(Z.cell? ⟨g,b,none⟩).isSome:=by
    have e1:∀b,(wa.cell? ⟨g,b,none⟩).isSome=(Z.cell? ⟨g,b,none⟩).isSome:=λb=>V▸Ie s0
    have e2:∀b,(wb.cell? ⟨g,b,none⟩).isSome=(Z.cell? ⟨g,b,none⟩).isSome:=λb=>U▸(Ie ((e1 _).trans s1)).trans (e1 b)
    have e3:∀b,(wc.cell? ⟨g,b,none⟩).isSome=(Z.cell? ⟨g,b,none⟩).isSome:=λb=>J▸(Ie ((e2 _).trans s2)).trans (e2 b)
    have e4:∀b,(O.cell? ⟨g,b,none⟩).isSome=(Z.cell? ⟨g,b,none⟩).isSome:=λb=>I▸(Ie ((e3 _).trans s3)).trans (e3 b)
    exact λb=>⟨e4 b,e3 b,e2 b,e1 b⟩
   have bA:∀b,b≠o+i*2->b≠o+i*2+1->b≠o+m*2->b≠o+m*2+1->O.cell? ⟨g,b,none⟩=Z.cell? ⟨g,b,none⟩:=λb n0 n1 n2 n3=>by
    rw[<-I,C6 n3.symm,<-J,C6 n2.symm,<-U,C6 n1.symm,<-V,C6 n0.symm]
   have cC:O.cell? ⟨g,o+i*2,none⟩=some (.int .i64 p2):=by rw[<-I,C6 (by omega),<-J,C6 (by omega),<-U,C6 (by omega),<-V,Lg s0]
   have cD:O.cell? ⟨g,o+i*2+1,none⟩=some (.int .i64 q2):=by rw[<-I,C6 (by omega),<-J,C6 (by omega),<-U,Lg ((bB _).2.2.2.trans s1)]
   have cT:O.cell? ⟨g,o+m*2,none⟩=some (.int .i64 p1):=by rw[<-I,C6 (by omega),<-J,Lg ((bB _).2.2.1.trans s2)]
   have cX:O.cell? ⟨g,o+m*2+1,none⟩=some (.int .i64 q1):=by rw[<-I,Lg ((bB _).2.1.trans s3)]
   have bE:=gS.1;have hI:=HN.1
   have HZ:=Kh (show 2*(i+1)<=N+1/\(∀(k:Nat) (c:Int×Int),k<N->rv l (i+1) k=some c->O.drew.cell? ⟨g,o+k*2,none⟩=some (.int .i64 c.1)/\O.drew.cell? ⟨g,o+k*2+1,none⟩=some (.int .i64 c.2))/\(∀i,O.drew.frozen? ⟨g,i,none⟩=false)/\O.drew.heap.size=w.heap.size/\(∀i,i<o∨o+N*2<=i->O.drew.cell? ⟨g,i,none⟩=w.cell? ⟨g,i,none⟩)/\(∀i,(O.drew.cell? ⟨g,i,none⟩).isSome=(w.cell? ⟨g,i,none⟩).isSome)/\(∀B,B<=g->Below B w O.drew)/\∀b,b≠g->O.drew.heap[b]?=w.heap[b]? from by
    refine⟨by omega,λk c hk hc=>?_,λb=>?_,?_,λb hb=>?_,λb=>(bB b).1.trans (Y.1.2.2.2.2.2.1 b),λB hB=>?_,λb hb=>?_⟩
    ·show O.cell? ⟨g,o+k*2,none⟩=_/\O.cell? ⟨g,o+k*2+1,none⟩=_
     by_cases k1:k=i
     ·subst k1
      have e:rv l (k+1) k=l[m]?:=by unfold rv;rw[if_pos (by omega)];congr 1;omega
      rw[e,gN.1]at hc;obtain rfl:(p2,q2)=c:=by simpa using hc
      exact⟨cC,cD⟩
     ·by_cases k2:k=m
      ·subst k2
       have e:rv l (i+1) k=l[i]?:=by unfold rv;rw[if_pos (by omega)];congr 1;omega
       rw[e,gL.1]at hc;obtain rfl:(p1,q1)=c:=by simpa using hc
       exact⟨cT,cX⟩
      ·have e:rv l (i+1) k=rv l i k:=by
        unfold rv;by_cases k3:k<i∨l.length<=i+k
        ·rw[if_pos k3,if_pos (by omega)]
        ·rw[if_neg k3,if_neg (by omega)]
       rw[e]at hc;have h9:=Y.1.2.1 k c hk hc;rw[bA _ (by omega) (by omega) (by omega) (by omega),bA _ (by omega) (by omega) (by omega) (by omega)];exact h9
    ·show O.frozen? ⟨g,b,none⟩=false
     rw[<-I,<-J,<-U,<-V];simp only[World.frozen?_setCell];exact Y.1.2.2.1 b
    ·show O.heap.size=_
     rw[<-I,<-J,<-U,<-V];simp;exact Y.1.2.2.2.1
    ·show O.cell? ⟨g,b,none⟩=_
     rw[bA _ (by omega) (by omega) (by omega) (by omega)];exact Y.1.2.2.2.2.1 b hb
    ·have h9:=Y.1.2.2.2.2.2.2.1 B hB
     rw[<-I,<-J,<-U,<-V];exact((((h9.setCell (p:=⟨g,o+i*2,none⟩) hB _).setCell (p:=⟨g,o+i*2+1,none⟩) hB _).setCell (p:=⟨g,o+m*2,none⟩) hB _).setCell (p:=⟨g,o+m*2+1,none⟩) hB _).drew
    ·show O.heap[b]?=_
     rw[<-I,<-J,<-U,<-V];exact(Below.heap_setCell _ ⟨g,o+m*2+1,none⟩ _ b hb).trans ((Below.heap_setCell _ ⟨g,o+m*2,none⟩ _ b hb).trans ((Below.heap_setCell _ ⟨g,o+i*2+1,none⟩ _ b hb).trans ((Below.heap_setCell _ ⟨g,o+i*2,none⟩ _ b hb).trans (Y.1.2.2.2.2.2.2.2 b hb)))))
   have cF:(m:Int) - 1=(N:Int) - 1 - ((i+1:Nat):Int):=by omega
   have gP:=Kh cF;rw[V,U,J,I];clear V U J I bB bA cC cD cT cX s0 s1 s2 s3 x0 x1 y0 y1 f0 f1 f2 f3 Y bE hI cF;generalize O.drew=we at HZ ⊢;go_wp2;go_roundw
   case rel=>exact⟨i+1,(m:Int) - 1,by go_num,rfl,gP.1,HZ⟩
   case measure=>simp[intOf];omega
  ·have HZ:=Kh (show CAt Z g o l.reverse/\_ from⟨λk c hc=>by
     have hk:k<N:=by have:=(List.getElem?_eq_some_iff.1 hc).1;rw[List.length_reverse,HN.1]at this;exact this
     refine Y.1.2.1 k c hk ?_;rw[List.getElem?_reverse (by rw[HN.1];exact hk)]at hc;have h1:=Y.1.1;unfold rv;by_cases h2:k<i∨l.length<=i+k
     ·rw[if_pos h2];exact hc
     ·rw[if_neg h2]
      have h3:l.length - 1 - k=k:=by have:=HN.1;omega
      rw[h3]at hc;exact hc,Y.1.2.2⟩)
   clear Y hj;go_wp2;go_end0;exact⟨⟨_,rfl⟩,HZ.1⟩
end
end Go.Proofs.YtenlbhlllgppmaaGreatDoor
