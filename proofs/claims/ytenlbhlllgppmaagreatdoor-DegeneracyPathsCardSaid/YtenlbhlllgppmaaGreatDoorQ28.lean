/- The relations between the classes of symbols, for all polynomials and pairs. No program in sight. -/
import Derived.Test.YtenlbhlllgppmaaGreatDoorQ27
set_option linter.unusedSimpArgs false
set_option maxRecDepth 100000
set_option maxHeartbeats 8000000
namespace Go.Proofs.YtenlbhlllgppmaaGreatDoor
section
open Eli
def H7 (n:Nat) (u v:Int):Nat:=(u % n).toNat*n+(v % n).toNat
theorem I5 {n:Nat} (I:0<n) (u v:Int):H7 n u v / n=(u % n).toNat:=by
 have H:(v % n).toNat<n:=by have:=Int.emod_lt_of_pos v (show(0:Int)<n by omega);have:=Int.emod_nonneg v (show(n:Int)≠0 by omega);omega
 unfold H7;rw[Nat.mul_comm,Nat.mul_add_div I,Nat.div_eq_of_lt H,Nat.add_zero]
theorem I6 {n:Nat} (I:0<n) (u v:Int):H7 n u v % n=(v % n).toNat:=by
 have H:(v % n).toNat<n:=by have:=Int.emod_lt_of_pos v (show(0:Int)<n by omega);have:=Int.emod_nonneg v (show(n:Int)≠0 by omega);omega
 unfold H7;rw[Nat.mul_comm,Nat.mul_add_mod,Nat.mod_eq_of_lt H]
theorem eN {n:Nat} (U:0<n) (u v:Int):H7 n u v<n*n:=by
 have H:=Int.emod_lt_of_pos u (show(0:Int)<n by omega);have I:=Int.emod_lt_of_pos v (show(0:Int)<n by omega);have J:=Int.emod_nonneg u (show(n:Int)≠0 by omega);have O:=Int.emod_nonneg v (show(n:Int)≠0 by omega);unfold H7
 calc (u % n).toNat*n+(v % n).toNat<(u % n).toNat*n+n:=by omega
  _=((u % n).toNat+1)*n:=by rw[Nat.add_mul,Nat.one_mul]
  _<=n*n:=Nat.mul_le_mul_right _ (by omega)
theorem Ka {n s:Nat} {u H:Int} (U:0<n) (h:H % n=(s*u) % n):(H % n).toNat=s*(u % n).toNat % n:=by
 have I:=Int.emod_nonneg u (show(n:Int)≠0 by omega);have J:=Int.emod_nonneg H (show(n:Int)≠0 by omega)
 have O:((s*(u % n).toNat % n:Nat):Int)=H % n:=by
  push_cast
  rw[Int.toNat_of_nonneg I,h,Int.mul_emod,Int.emod_emod,<-Int.mul_emod]
 omega
theorem T7 {n s:Nat} {u v I J:Int} (H:0<n) (O:I % n=(s*u) % n) (U:J % n=(s*v) % n):H7 n I J=Az n s (H7 n u v):=by
 unfold Az;rw[I5 H,I6 H,<-Ka H O,<-Ka H U];rfl
theorem Pj {n:Nat} (Y:0<n) {u v:Int}:E4 n (H7 n u v)=true↔∀g:Nat,(g:Int)∣u->(g:Int)∣v->g∣n->g=1:=by
 have U:=Int.emod_nonneg u (show(n:Int)≠0 by omega);have V:=Int.emod_nonneg v (show(n:Int)≠0 by omega)
 have H:∀{g:Nat} {x:Int},g∣n->0<=x % n->(g∣(x % n).toNat↔(g:Int)∣x):=λ{g x} hg h=>by
  rw[<-Int.natCast_dvd_natCast,Int.toNat_of_nonneg h];constructor
  ·intro O
   rw[<-Int.emod_add_mul_ediv x n];exact Int.dvd_add O (Int.dvd_trans (Int.natCast_dvd_natCast.2 hg) (Int.dvd_mul_right _ _))
  ·intro O
   rw[Int.emod_def];exact Int.dvd_sub O (Int.dvd_trans (Int.natCast_dvd_natCast.2 hg) (Int.dvd_mul_right _ _))
 unfold E4;rw[I5 Y,I6 Y,beq_iff_eq];constructor
 ·intro h g Z h2 J
  have:g∣Nat.gcd (Nat.gcd (u % n).toNat (v % n).toNat) n:=Nat.dvd_gcd (Nat.dvd_gcd ((H J U).2 Z) ((H J V).2 h2)) J;rw[h]at this;exact Nat.dvd_one.1 this
 ·intro h
  have I:=Nat.gcd_dvd_right (Nat.gcd (u % n).toNat (v % n).toNat) n;exact h _ ((H I U).1 (Nat.dvd_trans (Nat.gcd_dvd_left _ _) (Nat.gcd_dvd_left _ _))) ((H I V).1 (Nat.dvd_trans (Nat.gcd_dvd_left _ _) (Nat.gcd_dvd_right _ _))) I
theorem Xv {n k:Nat} (h:0<n) (Y:k<n*n) (hp:E4 n k=true):∃j s,j<(pts n (n*n)).length/\1<=s/\s<=n/\pun n s=true/\Az n s ((pts n (n*n)).getD j 0)=k:=by
 have H:∀a s,a∈pts n (n*n)->1<=s->s<=n->pun n s=true->Az n s a=k->∃j s,j<(pts n (n*n)).length/\1<=s/\s<=n/\pun n s=true/\Az n s ((pts n (n*n)).getD j 0)=k:=λa s V I J O U=>by
  obtain⟨j,Z,e⟩:=List.getElem_of_mem V;exact⟨j,s,Z,I,J,O,by rw[List.getD_eq_getElem?_getD,List.getElem?_eq_getElem Z,e];exact U⟩
 cases hs:Cm n (pts n k) k with
 | true=>
  obtain⟨a,V,s,I,J,O,U⟩:=Ie.1 hs;exact H a s (Kp (Nat.le_of_lt Y) V) I J O U
 | false=>exact H k 1 (Kp Y (Sy hp hs)) (by omega) h (by simp[pun]) (Ko Y)
section
variable {n wt:Nat} {D:Int} (x:Nat->Rat)
def cP (n wt:Nat) (x:Nat->Rat) (p:Nat×Int) (P:Nat->Rat):Rat:=sumQ (λi=>P i*(p.2:Rat)*x (i*(pts n (n*n)).length+p.1)) (wt+1)
theorem Mr {p:Nat×Int} (q:Nat->Rat) (f:Nat->Nat->Rat) (m:Nat):cP n wt x p (λj=>sumQ (λi=>q i*f i j) m)=sumQ (λi=>q i*cP n wt x p (f i)) m:=by
 have H:sumQ (λi=>q i*cP n wt x p (f i)) m=sumQ (λi=>sumQ (λj=>q i*f i j*(p.2:Rat)*x (j*(pts n (n*n)).length+p.1)) (wt+1)) m:=Ad (λi _=>by
  unfold cP;rw[<-Ap];exact Ad (λj _=>by grind))
 rw[H,Cx];unfold cP;refine Ad (λj _=>?_);rw[show sumQ (λi=>q i*f i j) m*(p.2:Rat)*x (j*(pts n (n*n)).length+p.1)=((p.2:Rat)*x (j*(pts n (n*n)).length+p.1))*sumQ (λi=>q i*f i j) m by grind,<-Ap];exact Ad (λi _=>by grind)
theorem Mq (j:Nat) (s t:Int) (P:Nat->Rat):cP n wt x (j,s*t) P=(s:Rat)*cP n wt x (j,t) P:=by
 unfold cP;rw[<-Ap];exact Ad (λi _=>by push_cast;grind)
theorem Mi (g:Nat->Rat) (m:Nat):∀w,sumQ g (w*m)=sumQ (λi=>sumQ (λj=>g (i*m+j)) m) w
 | 0=>by rw[Nat.zero_mul];rfl
 | w+1=>by
  have h:∀b,sumQ g (w*m+b)=sumQ g (w*m)+sumQ (λj=>g (w*m+j)) b:=by
   intro b;induction b with
   | zero=>rw[Nat.add_zero];show _=_+(0:Rat);grind
   | succ b ih=>rw[<-Nat.add_assoc,sumQ,ih,sumQ];grind
  rw[Nat.succ_mul,h m,sumQ,Mi g m w]
theorem I9 {i j:Nat} {a b c d:Int} {p:Nat×Int} (U:Ao n D (((pts n (n*n)).getD j 0 / n:Nat)*a+((pts n (n*n)).getD j 0 % n:Nat)*c) (((pts n (n*n)).getD j 0 / n:Nat)*b+((pts n (n*n)).getD j 0 % n:Nat)*d)=p) (O:p.2≠0->p.1<(pts n (n*n)).length):
  sumQ (λk=>(L8 n wt (pts n (n*n)) (Bb n D (pts n (n*n)) n) i j (a,b,c,d) k:Rat)*x k) ((wt+1)*(pts n (n*n)).length)=cP n wt x p (λl=>(mv i a b c d wt l:Rat)):=by
 have I:∀k,L8 n wt (pts n (n*n)) (Bb n D (pts n (n*n)) n) i j (a,b,c,d) k=if p.2=0 then 0 else if k % (pts n (n*n)).length=p.1/\k / (pts n (n*n)).length<=wt then p.2*mv i a b c d wt (k / (pts n (n*n)).length)else 0:=by
  intro k;unfold Ao at U;unfold L8;simp only[Ui];rw[U]
 rw[Mi];unfold cP;refine Ad (λl Y=>?_);by_cases h0:p.2=0
 ·rw[h0]
  rw[A4 (λk _=>by rw[I,if_pos h0];grind)];grind
 ·have hlt:=O h0
  have H:0<(pts n (n*n)).length:=by omega
  rw[Ba hlt]
  ·rw[I,if_neg h0,if_pos]
   ·rw[Nat.mul_comm l,Nat.mul_add_div H,Nat.div_eq_of_lt hlt,Nat.add_zero]
    push_cast
    grind
   ·rw[Nat.mul_comm l,Nat.mul_add_mod,Nat.mod_eq_of_lt hlt,Nat.mul_add_div H,Nat.div_eq_of_lt hlt]
    exact⟨rfl,by omega⟩
  ·intro k V J
   rw[I,if_neg h0,if_neg]
   ·grind
   ·rw[Nat.mul_comm l,Nat.mul_add_mod,Nat.mod_eq_of_lt V]
    exact λh=>J h.1
end
theorem F0 {n:Nat} {u v a b c d:Int} (V:0<n) (O:E4 n (H7 n u v)=true) (J:a*d - b*c=1):E4 n (H7 n (u*a+v*c) (u*b+v*d))=true:=by
 rw[Pj V]at O ⊢;intro g H I U;refine O g ?_ ?_ U
 ·have e:u=d*(u*a+v*c) - c*(u*b+v*d):=by
   have:d*(u*a+v*c) - c*(u*b+v*d)=u*(a*d - b*c):=by grind
   rw[this,J,Int.mul_one]
  rw[e];exact Int.dvd_sub (Int.dvd_trans H (Int.dvd_mul_left _ _)) (Int.dvd_trans I (Int.dvd_mul_left _ _))
 ·have e:v=a*(u*b+v*d) - b*(u*a+v*c):=by
   have:a*(u*b+v*d) - b*(u*a+v*c)=v*(a*d - b*c):=by grind
   rw[this,J,Int.mul_one]
  rw[e];exact Int.dvd_sub (Int.dvd_trans I (Int.dvd_mul_left _ _)) (Int.dvd_trans H (Int.dvd_mul_left _ _))
theorem Xy {n:Nat} {u v:Int} (O:0<n) (h:Int.gcd u v=1):E4 n (H7 n u v)=true:=by
 rw[Pj O];intro g I J _;have H:g∣Int.gcd u v:=Int.dvd_gcd I J;rw[h]at H;exact Nat.dvd_one.1 H
theorem Hg {n:Nat} {D u v:Int} (I:0<n) (Y:E4 n (H7 n u v)=true):∃j s,j<(pts n (n*n)).length/\1<=s/\s<=n/\pun n s=true/\Az n s ((pts n (n*n)).getD j 0)=H7 n u v/\Ao n D u v=(j,Pl.kroP D s):=by
 obtain⟨j,s,J,O,H,U,V⟩:=Xv I (eN I u v) Y;exact⟨j,s,J,O,H,U,V,Ib I J O H U V n H (kT _)⟩
theorem Mf {n wt s:Nat} {D u v I J:Int} (O:Pl.check n ((wt:Int)+2) D=0) (hp:E4 n (H7 n u v)=true) (h1:1<=s) (h2:s<=n) (V:pun n s=true) (hu:I % n=(s*u) % n) (hv:J % n=(s*v) % n):
  Ao n D I J=((Ao n D u v).1,Pl.kroP D s*(Ao n D u v).2):=by
 obtain⟨⟨a1,a2⟩,_,⟨Y,Z⟩,h,a6⟩:=Pl.check_ok O;have H:0<n:=by omega
 obtain⟨j,t,b1,b2,b3,U,b5,b6⟩:=Hg (D:=D) H hp;obtain⟨r,c1,c2,c3,c4⟩:=Ee H (Jd V U);have e:Az n r ((pts n (n*n)).getD j 0)=H7 n I J:=by rw[T7 H hu hv,<-b5,Fz H,Es c4]
 have hk:=Pl.kro_mul (N:=n) (D:=D) (a:=s) (b:=t) (c:=r) H Y Z h a6 (by omega) (by omega) (by omega) (by omega) (by omega) (by omega) (by simpa [pun] using V) (by simpa [pun] using U) (by simpa [pun] using c3) c4.symm;have h6:Ao n D I J=(j,Pl.kroP D r):=Ib H b1 c1 c2 c3 e n c2 (kT _);rw[h6,b6,hk.1]
theorem Gm {n wt:Nat} {D u v:Int} (I:Pl.check n ((wt:Int)+2) D=0) (hp:E4 n (H7 n u v)=true):(Ao n D u v).2≠0/\(Ao n D u v).1<(pts n (n*n)).length:=by
 obtain⟨⟨a1,a2⟩,_,⟨O,U⟩,V,Y⟩:=Pl.check_ok I;have J:0<n:=by omega
 obtain⟨j,t,Z,b2,b3,H,b5,b6⟩:=Hg (D:=D) J hp;obtain⟨r,c1,c2,c3,c4⟩:=Ee J (Jd H H);have hk:=Pl.kro_mul (N:=n) (D:=D) (a:=t) (b:=t) (c:=r) J O U V Y (by omega) (by omega) (by omega) (by omega) (by omega) (by omega) (by simpa [pun] using H) (by simpa [pun] using H) (by simpa [pun] using c3) c4.symm;rw[b6];exact⟨by rcases hk.2 with h|h <;>(dsimp only;rw[h];decide),Z⟩
def RelZ (n wt:Nat) (D:Int) (x:Nat->Rat):Prop:=∀r,r<2*((wt+1)*(pts n (n*n)).length)->sumQ (λk=>(Ks n wt D r k:Rat)*x k) ((wt+1)*(pts n (n*n)).length)=0
theorem Jb {n wt:Nat} {x:Nat->Rat} {r:Nat} (hr:r<(wt+1)*(pts n (n*n)).length):sumQ (λk=>((if k=r then 1 else 0:Int):Rat)*x k) ((wt+1)*(pts n (n*n)).length)=x r:=by
 rw[Ba hr]
 ·rw[if_pos rfl];push_cast;grind
 ·intro i _ h;rw[if_neg h];push_cast;grind
theorem Nq {n j:Nat} (Z:0<n) (Y:j<(pts n (n*n)).length):H7 n ((pts n (n*n)).getD j 0 / n:Nat) ((pts n (n*n)).getD j 0 % n:Nat)=(pts n (n*n)).getD j 0/\E4 n (H7 n ((pts n (n*n)).getD j 0 / n:Nat) ((pts n (n*n)).getD j 0 % n:Nat))=true:=by
 have I:=Bd Y;have hlt:=Gn I
 have e:H7 n ((pts n (n*n)).getD j 0 / n:Nat) ((pts n (n*n)).getD j 0 % n:Nat)=(pts n (n*n)).getD j 0:=by
  have J:(pts n (n*n)).getD j 0 / n<n:=Nat.div_lt_of_lt_mul hlt;have O:(pts n (n*n)).getD j 0 % n<n:=Nat.mod_lt _ Z;have H:∀z:Nat,z<n->(((z:Nat):Int) % n).toNat=z:=λz h=>by rw[Int.emod_eq_of_lt (by omega) (by omega)];omega
  have U:=H _ J;have V:=H _ O;unfold H7;rw[U,V,Nat.mul_comm,Nat.div_add_mod]
 exact⟨e,by rw[e];exact(Ig I).1⟩
theorem Rk {P:Nat->Rat} {wt:Nat} {a b c d:Int}:(λl=>sumQ (λi=>P i*(mv i a b c d wt l:Rat)) (wt+1))=subst P wt a b c d (wt+1):=rfl
theorem bU {n wt:Nat} {D:Int} {x:Nat->Rat} (I:Pl.check n ((wt:Int)+2) D=0) (hR:RelZ n wt D x) {j:Nat} (J:j<(pts n (n*n)).length) (P:Nat->Rat):
  cP n wt x (j,1) P+cP n wt x (Ao n D (((pts n (n*n)).getD j 0 / n:Nat)*0+((pts n (n*n)).getD j 0 % n:Nat)*1) (((pts n (n*n)).getD j 0 / n:Nat)*(-1)+((pts n (n*n)).getD j 0 % n:Nat)*0)) (subst P wt 0 (-1) 1 0 (wt+1))=0:=by
 obtain⟨⟨a1,a2⟩,_,⟨a3,a4⟩,a5,a6⟩:=Pl.check_ok I;have V:0<n:=by omega
 have O:=(Nq V J).2;have Y:=Gm I (F0 (a:=0) (b:=-1) (c:=1) (d:=0) V O (by decide))
 have H:∀i,i<wt+1->x (i*(pts n (n*n)).length+j)+cP n wt x (Ao n D (((pts n (n*n)).getD j 0 / n:Nat)*0+((pts n (n*n)).getD j 0 % n:Nat)*1) (((pts n (n*n)).getD j 0 / n:Nat)*(-1)+((pts n (n*n)).getD j 0 % n:Nat)*0)) (λl=>(mv i 0 (-1) 1 0 wt l:Rat))=0:=by
  intro i U
  have hlt:i*(pts n (n*n)).length+j<(wt+1)*(pts n (n*n)).length:=by
   have Z:=Nat.mul_le_mul_right (pts n (n*n)).length (show i+1<=wt+1 by omega);rw[Nat.succ_mul]at Z;omega
  have h:=hR (i*(pts n (n*n)).length+j) (by omega);have hs:=I9 (wt:=wt) (D:=D) x (i:=i) (j:=j) (a:=0) (b:=-1) (c:=1) (d:=0) rfl (λ_=>Y.2);rw[<-hs,<-Jb (x:=x) hlt,<-Ar,<-h];refine Ad (λk _=>?_);unfold Ks Kr;rw[if_pos hlt,Nat.mul_comm i,Nat.mul_add_div (by omega),Nat.div_eq_of_lt J,Nat.add_zero,Nat.mul_add_mod,Nat.mod_eq_of_lt J];unfold gTurn
  push_cast
  grind
 rw[<-Rk,Mr];unfold cP at H ⊢;rw[<-Ar];refine A4 (λi U=>?_);have h:=H i U;dsimp only;generalize sumQ _ (wt+1)=z at h ⊢
 push_cast
 grind
theorem Yv {n wt:Nat} {D:Int} {x:Nat->Rat} (I:Pl.check n ((wt:Int)+2) D=0) (hR:RelZ n wt D x) {j:Nat} (O:j<(pts n (n*n)).length) (P:Nat->Rat):
  cP n wt x (j,1) P+cP n wt x (Ao n D (((pts n (n*n)).getD j 0 / n:Nat)*0+((pts n (n*n)).getD j 0 % n:Nat)*1) (((pts n (n*n)).getD j 0 / n:Nat)*(-1)+((pts n (n*n)).getD j 0 % n:Nat)*(-1))) (subst P wt 0 (-1) 1 (-1) (wt+1))
   + cP n wt x (Ao n D (((pts n (n*n)).getD j 0 / n:Nat)*(-1)+((pts n (n*n)).getD j 0 % n:Nat)*(-1)) (((pts n (n*n)).getD j 0 / n:Nat)*1+((pts n (n*n)).getD j 0 % n:Nat)*0)) (subst P wt (-1) 1 (-1) 0 (wt+1))=0:=by
 obtain⟨⟨a1,a2⟩,_,⟨a3,a4⟩,a5,a6⟩:=Pl.check_ok I;have U:0<n:=by omega
 have J:=(Nq U O).2;have Z:=Gm I (F0 (a:=0) (b:=-1) (c:=1) (d:=-1) U J (by decide));have g2:=Gm I (F0 (a:=-1) (b:=1) (c:=-1) (d:=0) U J (by decide))
 have H:∀i,i<wt+1->x (i*(pts n (n*n)).length+j)+cP n wt x (Ao n D (((pts n (n*n)).getD j 0 / n:Nat)*0+((pts n (n*n)).getD j 0 % n:Nat)*1) (((pts n (n*n)).getD j 0 / n:Nat)*(-1)+((pts n (n*n)).getD j 0 % n:Nat)*(-1))) (λl=>(mv i 0 (-1) 1 (-1) wt l:Rat))
   + cP n wt x (Ao n D (((pts n (n*n)).getD j 0 / n:Nat)*(-1)+((pts n (n*n)).getD j 0 % n:Nat)*(-1)) (((pts n (n*n)).getD j 0 / n:Nat)*1+((pts n (n*n)).getD j 0 % n:Nat)*0)) (λl=>(mv i (-1) 1 (-1) 0 wt l:Rat))=0:=by
  intro i Y
  have hlt:i*(pts n (n*n)).length+j<(wt+1)*(pts n (n*n)).length:=by
   have h7:=Nat.mul_le_mul_right (pts n (n*n)).length (show i+1<=wt+1 by omega);rw[Nat.succ_mul]at h7;omega
  have h:=hR ((wt+1)*(pts n (n*n)).length+(i*(pts n (n*n)).length+j)) (by omega);have hs:=I9 (wt:=wt) (D:=D) x (i:=i) (j:=j) (a:=0) (b:=-1) (c:=1) (d:=-1) rfl (λ_=>Z.2);have V:=I9 (wt:=wt) (D:=D) x (i:=i) (j:=j) (a:=-1) (b:=1) (c:=-1) (d:=0) rfl (λ_=>g2.2);rw[<-hs,<-V,<-Jb (x:=x) hlt,<-Ar,<-Ar,<-h];refine Ad (λk _=>?_);unfold Ks Kr;rw[if_neg (show ¬((wt+1)*(pts n (n*n)).length+(i*(pts n (n*n)).length+j)<(wt+1)*(pts n (n*n)).length)by omega),Nat.add_sub_cancel_left,Nat.mul_comm i,Nat.mul_add_div (by omega),Nat.div_eq_of_lt O,Nat.add_zero,Nat.mul_add_mod,Nat.mod_eq_of_lt O];unfold gThird gTwice
  push_cast
  grind
 rw[<-Rk,<-Rk,Mr,Mr];unfold cP at H ⊢;rw[<-Ar,<-Ar];refine A4 (λi Y=>?_);have h:=H i Y;dsimp only;generalize sumQ _ (wt+1)=z at h ⊢;generalize sumQ _ (wt+1)=z2 at h ⊢
 push_cast
 grind
theorem Me {n wt:Nat} {D u v:Int} (J:Pl.check n ((wt:Int)+2) D=0) (hp:E4 n (H7 n u v)=true):∃(j:Nat) (e:Int),j<(pts n (n*n)).length/\Ao n D u v=(j,e*1)/\∀a b c d:Int,a*d - b*c=1 ->
  Ao n D (u*a+v*c) (u*b+v*d)=((Ao n D (((pts n (n*n)).getD j 0 / n:Nat)*a+((pts n (n*n)).getD j 0 % n:Nat)*c) (((pts n (n*n)).getD j 0 / n:Nat)*b+((pts n (n*n)).getD j 0 % n:Nat)*d)).1,e*(Ao n D (((pts n (n*n)).getD j 0 / n:Nat)*a+((pts n (n*n)).getD j 0 % n:Nat)*c) (((pts n (n*n)).getD j 0 / n:Nat)*b+((pts n (n*n)).getD j 0 % n:Nat)*d)).2):=by
 obtain⟨⟨a1,a2⟩,_,⟨a3,a4⟩,a5,a6⟩:=Pl.check_ok J;have I:0<n:=by omega
 obtain⟨j,s,V,Z,b3,b4,Y,b6⟩:=Hg (D:=D) I hp;have U:=Nq I V
 have hu:u % n=(s*((pts n (n*n)).getD j 0 / n:Nat)) % n:=by
  have h:Az n s ((pts n (n*n)).getD j 0) / n=H7 n u v / n:=by rw[Y]
  rw[C6 I,I5 I]at h;have h3:=Int.emod_nonneg u (show(n:Int)≠0 by omega);have O:((s*((pts n (n*n)).getD j 0 / n) % n:Nat):Int)=u % n:=by omega
  rw[<-O];push_cast;rfl
 have hv:v % n=(s*((pts n (n*n)).getD j 0 % n:Nat)) % n:=by
  have h:Az n s ((pts n (n*n)).getD j 0) % n=H7 n u v % n:=by rw[Y]
  rw[C7,I6 I]at h;have h3:=Int.emod_nonneg v (show(n:Int)≠0 by omega);have O:((s*((pts n (n*n)).getD j 0 % n) % n:Nat):Int)=v % n:=by omega
  rw[<-O];push_cast;rfl
 have H:∀a c:Int,(u*a+v*c) % n=(s*(((pts n (n*n)).getD j 0 / n:Nat)*a+((pts n (n*n)).getD j 0 % n:Nat)*c)) % n:=λa c=>by
  rw[Int.mul_add,<-Int.mul_assoc,<-Int.mul_assoc,Int.add_emod,Int.mul_emod u,Int.mul_emod v,hu,hv,<-Int.mul_emod,<-Int.mul_emod,<-Int.add_emod]
 refine⟨j,Pl.kroP D s,V,by rw[Int.mul_one];exact b6,λa b c d hd=>?_⟩;exact Mf J (F0 I U.2 hd) Z b3 b4 (H a c) (H b d)
theorem Gu {n wt:Nat} {x:Nat->Rat} {e:Int} (p:Nat×Int) (P:Nat->Rat):cP n wt x (p.1,e*p.2) P=(e:Rat)*cP n wt x p P:=Mq x p.1 e p.2 P
theorem Yf {n wt:Nat} {D:Int} {x:Nat->Rat} (H:Pl.check n ((wt:Int)+2) D=0) (U:RelZ n wt D x) {u v:Int} (Y:E4 n (H7 n u v)=true) (P:Nat->Rat):
  cP n wt x (Ao n D u v) P+cP n wt x (Ao n D v (-u)) (subst P wt 0 (-1) 1 0 (wt+1))=0:=by
 obtain⟨j,e,V,J,O⟩:=Me H Y;have I:=O 0 (-1) 1 0 (by decide);rw[show u*0+v*1=v by omega,show u*(-1)+v*0=-u by omega]at I;rw[J,I,Gu,Mq,<-Rat.mul_add,bU H U V P,Rat.mul_zero]
theorem Ur {n wt:Nat} {D:Int} {x:Nat->Rat} (H:Pl.check n ((wt:Int)+2) D=0) (V:RelZ n wt D x) {u v:Int} (Z:E4 n (H7 n u v)=true) (P:Nat->Rat):
  cP n wt x (Ao n D u v) P+cP n wt x (Ao n D v (-u - v)) (subst P wt 0 (-1) 1 (-1) (wt+1))+cP n wt x (Ao n D (-u - v) u) (subst P wt (-1) 1 (-1) 0 (wt+1))=0:=by
 obtain⟨j,e,Y,U,I⟩:=Me H Z;have J:=I 0 (-1) 1 (-1) (by decide);have O:=I (-1) 1 (-1) 0 (by decide);rw[show u*0+v*1=v by omega,show u*(-1)+v*(-1)=-u - v by omega]at J;rw[show u*(-1)+v*(-1)=-u - v by omega,show u*1+v*0=u by omega]at O;rw[U,J,O,Gu,Gu,Mq,<-Rat.mul_add,<-Rat.mul_add,Yv H V Y P,Rat.mul_zero]
def Nb (x y:Int×Int):Prop:=y.1*x.2 - x.1*y.2=1∨y.1*x.2 - x.1*y.2=-1
theorem Nb.symm {x y:Int×Int} (h:Nb x y):Nb y x:=by unfold Nb at *;omega
def Gd (x:Int×Int):Prop:=0<=x.2/\(x.2=0->x.1=1)
structure Steps (st:Int×Int->Int×Int->Rat):Prop where
 anti:∀x y,Nb x y->st x y+st y x=0
 tri:∀x y,Nb x y->st x y+st y (x.1+y.1,x.2+y.2)+st (x.1+y.1,x.2+y.2) x=0
noncomputable def par (x:Int×Int):Int×Int:=by
 classical
 exact if h:∃y:Int×Int,y.1*x.2 - x.1*y.2=1/\0<=y.2/\y.2<x.2 then h.choose else(1,0)
theorem Q7 {x y z:Int×Int} (I:y.1*x.2 - x.1*y.2=1) (h2:0<=y.2) (h3:y.2<x.2) (V:z.1*x.2 - x.1*z.2=1) (Y:0<=z.2) (Z:z.2<x.2):y=z:=by
 have e:y.2 - z.2=x.2*(y.1*(y.2 - z.2) - (y.1 - z.1)*y.2):=by
  have h:(y.1 - z.1)*x.2=x.1*(y.2 - z.2):=by grind
  calc y.2 - z.2=(y.1*x.2 - x.1*y.2)*(y.2 - z.2):=by rw[I,Int.one_mul]
   _=x.2*(y.1*(y.2 - z.2)) - (x.1*(y.2 - z.2))*y.2:=by grind
   _=x.2*(y.1*(y.2 - z.2) - (y.1 - z.1)*y.2):=by rw[<-h];grind
 have h0:y.2 - z.2=0:=by
  obtain⟨t,U⟩:∃t,y.1*(y.2 - z.2) - (y.1 - z.1)*y.2=t:=⟨_,rfl⟩
  rw[U]at e;rcases Int.lt_trichotomy t 0 with h|h|h
  ·have:=Int.mul_le_mul_of_nonneg_left (show t<=-1 by omega) (show 0<=x.2 by omega)
   omega
  ·rw[e,h,Int.mul_zero]
  ·have:=Int.mul_le_mul_of_nonneg_left (show 1<=t by omega) (show 0<=x.2 by omega)
   omega
 have H:y.2=z.2:=by omega
 have J:(y.1 - z.1)*x.2=0:=by rw[H]at I;grind
 have O:y.1=z.1:=by
  rcases Int.mul_eq_zero.1 J with h|h <;> omega
 exact Prod.ext O H
theorem fB {x y:Int×Int} (I:y.1*x.2 - x.1*y.2=1) (J:0<=y.2) (O:y.2<x.2):par x=y:=by
 have H:∃y:Int×Int,y.1*x.2 - x.1*y.2=1/\0<=y.2/\y.2<x.2:=⟨y,I,J,O⟩
 unfold par;rw[dif_pos H];have h:=H.choose_spec;exact Q7 h.1 h.2.1 h.2.2 I J O
noncomputable def pot (st:Int×Int->Int×Int->Rat):Nat->Int×Int->Rat
 | 0,_=>0
 | k+1,x=>if 0<x.2/\(par x).2<x.2 then pot st k (par x)+st (par x) x else 0
noncomputable def Pot (st:Int×Int->Int×Int->Rat) (x:Int×Int):Rat:=pot st x.2.toNat x
theorem Xw (st:Int×Int->Int×Int->Rat):∀(k:Nat) (x:Int×Int),x.2.toNat<=k->pot st k x=Pot st x:=by
 intro k;induction k using Nat.strongRecOn with
 | _ k ih=>
  intro x O;unfold Pot;rcases Nat.eq_zero_or_pos k with I|I
  ·rw[I,show x.2.toNat=0 by omega]
  ·obtain⟨m,rfl⟩:∃m,k=m+1:=⟨k - 1,by omega⟩
   rcases Nat.eq_zero_or_pos x.2.toNat with H|H
   ·have e:pot st (m+1) x=0:=by rw[pot,if_neg (by omega)]
    rw[H,e];rfl
   ·obtain⟨l,J⟩:∃l,x.2.toNat=l+1:=⟨x.2.toNat - 1,by omega⟩
    rw[J,pot,pot];by_cases h:0<x.2/\(par x).2<x.2
    ·rw[if_pos h,if_pos h,ih m (by omega) (par x) (by omega),ih l (by omega) (par x) (by omega)]
    ·rw[if_neg h,if_neg h]
theorem Cj {st:Int×Int->Int×Int->Rat} {x y:Int×Int} (I:y.1*x.2 - x.1*y.2=1) (J:0<=y.2) (H:y.2<x.2):Pot st x=Pot st y+st y x:=by
 have U:=fB I J H;obtain⟨l,O⟩:∃l,x.2.toNat=l+1:=⟨x.2.toNat - 1,by omega⟩
 unfold Pot;rw[O,pot,U,if_pos ⟨by omega,H⟩,Xw st l y (by omega)];rfl
theorem Steps.diff {st:Int×Int->Int×Int->Rat} (h:Steps st):∀(N:Nat) (x y:Int×Int),Gd x->Gd y->Nb x y->(x.2+y.2).toNat<=N->st x y=Pot st y - Pot st x:=by
 intro N;induction N with
 | zero=>
  intro x y U Y I hN;exfalso;have e1:x.2=0:=by have:=U.1;have:=Y.1;omega
  have e2:y.2=0:=by have:=U.1;have:=Y.1;omega
  unfold Nb at I;rw[e1,e2]at I;simp at I
 | succ N ih=>
  have aN:∀x y:Int×Int,Gd x->Gd y->Nb x y->(x.2+y.2).toNat<=N+1->x.2<=y.2->st x y=Pot st y - Pot st x:=by
   intro x y U Y I hN O;have bB:=U.1;rcases Int.lt_or_eq_of_le O with hlt|bA
   ·rcases I with hd|hd
    ·
     have gA:x.2≠0:=λe=>by
      have J:=U.2 e;rw[e,J]at hd;omega
     obtain⟨z,hz⟩:∃z:Int×Int,z=(y.1 - x.1,y.2 - x.2):=⟨_,rfl⟩
     have z1:z.1=y.1 - x.1:=by rw[hz]
     have z2:z.2=y.2 - x.2:=by rw[hz]
     have bC:z.1*y.2 - y.1*z.2=1:=by rw[z1,z2];grind
     have hP:=Cj (st:=st) bC (by omega) (by omega);have aL:Nb z x:=.inr (by rw[z1,z2];grind);have hs:(z.1+x.1,z.2+x.2)=y:=Prod.ext (by show z.1+x.1=y.1;omega) (by show z.2+x.2=y.2;omega);have Z:=h.tri z x aL;rw[hs]at Z;have hA:=h.anti z y (.inr (by grind));have hI:=ih z x ⟨by omega,λe=>by omega⟩ U aL (by omega);grind
    ·
     have hP:=Cj (st:=st) (x:=y) (y:=x) (by omega) bB hlt;grind
   ·
    have hq:y.2=1:=by
     have J:y.2*(y.1 - x.1)=1∨y.2*(y.1 - x.1)=-1:=by
      unfold Nb at I;rw[bA]at I;rcases I with I|I
      ·left;rw[<-I];grind
      ·right;rw[<-I];grind
     have h2:y.2∣1:=by
      rcases J with J|J
      ·exact⟨_,J.symm⟩
      ·exact⟨-(y.1 - x.1),by rw[Int.mul_neg,J];rfl⟩
     have h3:=Int.le_of_dvd (by decide) h2;have h4:y.2≠0:=λe=>by rw[e]at J;simp at J
     omega
    have V:x.2=1:=by omega
    obtain⟨H,ho⟩:∃H:Int×Int,H=(1,0):=⟨_,rfl⟩
    have o1:H.1=1:=by rw[ho]
    have o2:H.2=0:=by rw[ho]
    have dY:=Cj (st:=st) (x:=x) (y:=H) (by rw[o1,o2,V];omega) (by omega) (by omega);have eP:=Cj (st:=st) (x:=y) (y:=H) (by rw[o1,o2,hq];omega) (by omega) (by omega);have dE:Pot st H=0:=by unfold Pot;rw[o2];rfl
    have aD:Nb H x:=.inr (by rw[o1,o2,V];omega);have aJ:Nb H y:=.inr (by rw[o1,o2,hq];omega);have hA:=h.anti x y I;have cT:=h.anti H x aD;have cX:=h.anti H y aJ;have J:y.1=x.1+1∨x.1=y.1+1:=by unfold Nb at I;rw[hq,V]at I;omega
    rcases J with J|J
    ·have hs:(H.1+x.1,H.2+x.2)=y:=Prod.ext (by show H.1+x.1=y.1;omega) (by show H.2+x.2=y.2;omega)
     have Z:=h.tri H x aD;rw[hs]at Z;grind
    ·have hs:(H.1+y.1,H.2+y.2)=x:=Prod.ext (by show H.1+y.1=x.1;omega) (by show H.2+y.2=x.2;omega)
     have Z:=h.tri H y aJ;rw[hs]at Z;grind
  intro x y U Y I hN;rcases Int.le_total x.2 y.2 with O|O
  ·exact aN x y U Y I hN O
  ·have J:=aN y x Y U I.symm (by rw[Int.add_comm];exact hN) O
   have h2:=h.anti x y I;grind
theorem Steps.chain {st:Int×Int->Int×Int->Rat} (h:Steps st) (ch:Nat->Int×Int):∀k,(∀j,j<=k->Gd (ch j))->(∀j,j<k->Nb (ch j) (ch (j+1)))->sumQ (λj=>st (ch j) (ch (j+1))) k=Pot st (ch k) - Pot st (ch 0)
 | 0,_,_=>by show(0:Rat)=_;grind
 | k+1,hg,hn=>by
  rw[sumQ,h.chain ch k (λj H=>hg j (by omega)) (λj H=>hn j (by omega)),h.diff _ _ _ (hg k (by omega)) (hg (k+1) (by omega)) (hn k (by omega)) (kT _)];grind
def ph (n wt:Nat) (D:Int) (x:Nat->Rat) (Q:Nat->Rat) (a b c d:Int):Rat:=cP n wt x (Ao n D c d) (subst Q wt a b c d (wt+1))
theorem C4 {n:Nat} {a b c d:Int} (J:0<n) (h:a*d - b*c=1):E4 n (H7 n c d)=true:=by
 refine Xy J ?_
 have H:((Int.gcd c d:Nat):Int)∣1:=by
  rw[<-h];exact Int.dvd_sub (Int.dvd_trans (Int.gcd_dvd_right ..) (Int.dvd_mul_left _ _)) (Int.dvd_trans (Int.gcd_dvd_left ..) (Int.dvd_mul_left _ _))
 have I:(Int.gcd c d)∣1:=Int.natCast_dvd_natCast.1 H;exact Nat.dvd_one.1 I
section
variable {n wt:Nat} {D:Int} {x:Nat->Rat} {Q:Nat->Rat}
theorem Iw (a b c d H I J O:Int):subst (subst Q wt a b c d (wt+1)) wt H I J O (wt+1)=subst Q wt (a*H+b*J) (a*I+b*O) (c*H+d*J) (c*I+d*O) (wt+1):=funext λj=>Pr Q a b c d H I J O wt j
theorem Fy (H:Pl.check n ((wt:Int)+2) D=0) (J:RelZ n wt D x) {a b c d:Int} (h:a*d - b*c=1):ph n wt D x Q a b c d+ph n wt D x Q b (-a) d (-c)=0:=by
 obtain⟨⟨O,U⟩,_⟩:=Pl.check_ok H;have I:=Yf H J (C4 (n:=n) (by omega) h) (subst Q wt a b c d (wt+1));rw[Iw,show a*0+b*1=b by omega,show a*(-1)+b*0=-a by omega,show c*0+d*1=d by omega,show c*(-1)+d*0=-c by omega]at I;exact I
theorem Xs (H:Pl.check n ((wt:Int)+2) D=0) (J:RelZ n wt D x) {a b c d:Int} (h:a*d - b*c=1):ph n wt D x Q a b c d+ph n wt D x Q b (-a - b) d (-c - d)+ph n wt D x Q (-a - b) a (-c - d) c=0:=by
 obtain⟨⟨O,U⟩,_⟩:=Pl.check_ok H;have I:=Ur H J (C4 (n:=n) (by omega) h) (subst Q wt a b c d (wt+1));rw[Iw,Iw,show a*0+b*1=b by omega,show a*(-1)+b*(-1)=-a - b by omega,show c*0+d*1=d by omega,show c*(-1)+d*(-1)=-c - d by omega,show a*1+b*0=a by omega,show c*1+d*0=c by omega]at I;exact I
theorem Kl (H:Pl.check n ((wt:Int)+2) D=0) (I:RelZ n wt D x) {a b c d:Int} (h:a*d - b*c=1):ph n wt D x Q (-a) (-b) (-c) (-d)=ph n wt D x Q a b c d:=by
 have J:=Fy (Q:=Q) H I h;have O:=Fy (Q:=Q) H I (a:=b) (b:=-a) (c:=d) (d:=-c) (by grind);grind
def Ag (n wt:Nat) (D:Int) (x:Nat->Rat) (Q:Nat->Rat) (y z:Int×Int):Rat:=if z.1*y.2 - y.1*z.2=1 then ph n wt D x Q z.1 y.1 z.2 y.2 else ph n wt D x Q z.1 (-y.1) z.2 (-y.2)
theorem Pq (H:Pl.check n ((wt:Int)+2) D=0) (J:RelZ n wt D x):Steps (Ag n wt D x Q) where
 anti y z h:=by
  unfold Ag;rcases h with h|h
  ·rw[if_pos h,if_neg (by omega)]
   exact Fy H J (by grind)
  ·rw[if_neg (by omega),if_pos (by omega)]
   have I:=Fy (Q:=Q) H J (a:=z.1) (b:=-y.1) (c:=z.2) (d:=-y.2) (by grind);have O:=Kl (Q:=Q) H J (a:=y.1) (b:=z.1) (c:=y.2) (d:=z.2) (by grind);rw[O]at I;exact I
 tri y z h:=by
  have U:∀y z:Int×Int,z.1*y.2 - y.1*z.2=1->Ag n wt D x Q y z+Ag n wt D x Q z (y.1+z.1,y.2+z.2)+Ag n wt D x Q (y.1+z.1,y.2+z.2) y=0:=by
   intro y z h;unfold Ag;dsimp only;rw[if_pos h,if_neg (by grind),if_neg (by grind)];have I:=Xs (Q:=Q) H J (a:=z.1) (b:=y.1) (c:=z.2) (d:=y.2) (by grind);have O:=Kl (Q:=Q) H J (a:=y.1+z.1) (b:=-z.1) (c:=y.2+z.2) (d:=-z.2) (by grind);rw[show -(y.1+z.1)=-z.1 - y.1 by omega,show -(y.2+z.2)=-z.2 - y.2 by omega,Int.neg_neg,Int.neg_neg]at O;rw[show -(y.1+z.1)=-z.1 - y.1 by omega,show -(y.2+z.2)=-z.2 - y.2 by omega,<-O];grind
  have anti:∀y z:Int×Int,Nb y z->Ag n wt D x Q y z+Ag n wt D x Q z y=0:=by
   intro y z h;unfold Ag;rcases h with h|h
   ·rw[if_pos h,if_neg (by omega)]
    exact Fy H J (by grind)
   ·rw[if_neg (by omega),if_pos (by omega)]
    have I:=Fy (Q:=Q) H J (a:=z.1) (b:=-y.1) (c:=z.2) (d:=-y.2) (by grind);have O:=Kl (Q:=Q) H J (a:=y.1) (b:=z.1) (c:=y.2) (d:=z.2) (by grind);rw[O]at I;exact I
  rcases h with h|h
  ·exact U y z h
  ·have I:=U z y (by omega)
   rw[Int.add_comm z.1,Int.add_comm z.2]at I;have V:=anti y z (.inr h);have Y:=anti z (y.1+z.1,y.2+z.2) (by unfold Nb;dsimp only;grind);have Z:=anti y (y.1+z.1,y.2+z.2) (by unfold Nb;dsimp only;grind);grind
end
end
def Fp (p q:Int):List Int:=if _h:0<q then p / q :: Fp q (p % q)else []
termination_by q.toNat
decreasing_by have:=Int.emod_lt_of_pos p (show 0<q by assumption);omega
theorem J3 (p:Int):Fp p 0=[]:=by rw[Fp,dif_neg (by decide)]
theorem M0 {p q:Int} (h:0<q):Fp p q=p / q :: Fp q (p % q):=by rw[Fp,dif_pos h]
def F4:Int×Int->Int×Int->List Int->List (Int×Int)
 | _,_,[]=>[]
 | b,l,n :: ns=>(n*l.1+b.1,n*l.2+b.2) :: F4 l (n*l.1+b.1,n*l.2+b.2) ns
theorem Gh:∀(H:List Int) (b l:Int×Int),(F4 b l H).length=H.length
 | [],_,_=>rfl
 | n :: H,b,l=>by rw[F4,List.length_cons,List.length_cons,Gh H]
def ChOk:List (Int×Int)->Prop
 | a :: b :: r=>Nb a b/\ChOk (b :: r)
 | _=>True
def InC (c:Int×Int):Prop:=-1073741824<=c.1/\c.1<=1073741824/\0<=c.2/\c.2<=1073741824
theorem O2 {p q n r:Int} (h:q*n+r=p) (hg:Int.gcd p q=1):Int.gcd q r=1:=by
 have H:((Int.gcd q r:Nat):Int)∣q:=Int.gcd_dvd_left ..;have J:((Int.gcd q r:Nat):Int)∣r:=Int.gcd_dvd_right ..;have I:Int.gcd q r∣Int.gcd p q:=Int.dvd_gcd (by rw[<-h];exact Int.dvd_add (Int.dvd_trans H (Int.dvd_mul_right _ _)) J) H;rw[hg]at I;exact Nat.dvd_one.1 I
theorem gR {p0 q0 a b r e:Int} (I:-1073741824<=p0) (J:p0<=1073741824) (hq:0<q0) (O:0<=b) (H:b<=q0) (hr:0<=r) (V:r<q0) (hc:q0*a - p0*b=r*e) (U:e=1∨e=-1):-1073741824<=a/\a<=1073741824:=by
 have Y:p0*b<=1073741824*q0:=Int.le_trans (Int.mul_le_mul_of_nonneg_right J O) (Int.mul_le_mul_of_nonneg_left H (by decide))
 have Z:-1073741824*q0<=p0*b:=by
  have h3:=Int.mul_le_mul_of_nonneg_right I O;have h4:=Int.mul_le_mul_of_nonneg_left H (show(0:Int)<=1073741824 by decide);omega
 have h5:-r<=r*e/\r*e<=r:=by rcases U with rfl|rfl <;> omega
 constructor
 ·rcases Int.lt_or_le a (-1073741824)with h|h
  ·exfalso
   have:=Int.mul_le_mul_of_nonneg_left (show a<=-1073741825 by omega) (Int.le_of_lt hq);omega
  ·exact h
 ·rcases Int.lt_or_le 1073741824 a with h|h
  ·exfalso
   have:=Int.mul_le_mul_of_nonneg_left (show 1073741825<=a by omega) (Int.le_of_lt hq);omega
  ·exact h
theorem aF {p0 q0:Int} (cA:-1073741824<=p0) (cB:p0<=1073741824) (hE:q0<=1073741824):∀(j:Nat) (p q:Int) (b l:Int×Int),0<=q->q<p->p*q<2 ^ j->Int.gcd p q=1->l.1*p+b.1*q=p0->l.2*p+b.2*q=q0 ->
  (l.1*b.2 - b.1*l.2=1∨l.1*b.2 - b.1*l.2=-1)->1<=l.2->0<=b.2 ->
  (Fp p q).length<=j/\(∀n∈Fp p q,1<=n/\n<=1073741824)/\(∀c∈F4 b l (Fp p q),InC c/\1<=c.2)/\ChOk (l :: F4 b l (Fp p q))/\(l :: F4 b l (Fp p q)).getLast?=some (p0,q0):=by
 intro j;induction j with
 | zero=>
  intro p q b l hq cD cC hg e1 e2 hd hl hb
  obtain rfl:q=0:=by
   rcases Int.lt_or_eq_of_le hq with h|h
   ·have:=Int.mul_le_mul (show(1:Int)<=p by omega) (show(1:Int)<=q by omega) (by omega) (by omega)
    omega
   ·exact h.symm
  have hp:p=1:=by simp at hg;omega
  subst hp;have Y:=J3 1;rw[Y];refine⟨by simp,by simp,by simp[F4],by simp[F4,ChOk],?_⟩;have J:l=(p0,q0):=Prod.ext (by show l.1=p0;omega) (by show l.2=q0;omega);simp[F4,J]
 | succ j ih=>
  intro p q b l hq cD cC hg e1 e2 hd hl hb;rcases Int.lt_or_eq_of_le hq with U|U
  ·have V:=Int.emod_nonneg p (show q≠0 by omega)
   have aL:=Int.emod_lt_of_pos p U;have I:=Int.mul_ediv_add_emod p q;obtain⟨r,hr⟩:∃r,p % q=r:=⟨_,rfl⟩
   obtain⟨n,hn⟩:∃n,p / q=n:=⟨_,rfl⟩
   rw[hr]at V aL I;rw[hn]at I
   have aK:1<=n:=by
    rcases Int.lt_or_le n 1 with h|h
    ·have:=Int.mul_le_mul_of_nonneg_left (show n<=0 by omega) (show 0<=q by omega)
     omega
    ·exact h
   have hB:n<=p:=by
    have:=Int.mul_le_mul_of_nonneg_right (show(1:Int)<=q by omega) (show 0<=n by omega);omega
   have cF:q*r<2 ^ j:=by
    have J:q*q+q*r<=p*q:=by
     have h3:q*q<=q*n*q:=by
      have:=Int.mul_le_mul_of_nonneg_left aK (show 0<=q*q from Int.mul_nonneg hq hq)
      calc q*q=q*q*1:=by omega
       _<=q*q*n:=this
       _=q*n*q:=by grind
     have h4:p*q=q*n*q+q*r:=by rw[<-I];grind
     omega
    have h2:q*r<=q*q:=Int.mul_le_mul_of_nonneg_left (show r<=q by omega) hq;have h5:(2:Int) ^ (j+1)=2*2 ^ j:=by rw[Int.pow_succ];omega
    omega
   have bA:Int.gcd q r=1:=O2 I hg;obtain⟨H,aD⟩:∃H:Int×Int,H=(n*l.1+b.1,n*l.2+b.2):=⟨_,rfl⟩
   have l1:H.1=n*l.1+b.1:=by rw[aD]
   have l2:H.2=n*l.2+b.2:=by rw[aD]
   have f1:H.1*q+l.1*r=p0:=by rw[l1,<-e1,<-I];grind
   have f2:H.2*q+l.2*r=q0:=by rw[l2,<-e2,<-I];grind
   have aJ:1<=H.2:=by
    have:=Int.mul_le_mul_of_nonneg_right aK (show 0<=l.2 by omega);omega
   have Z:H.1*l.2 - l.1*H.2=1∨H.1*l.2 - l.1*H.2=-1:=by
    have:H.1*l.2 - l.1*H.2=-(l.1*b.2 - b.1*l.2):=by rw[l1,l2];grind
    omega
   obtain⟨g1,g2,g3,g4,g5⟩:=ih q r l H V aL cF bA f1 f2 Z aJ (by omega)
   have eP:q<q0:=by
    have J:=Int.mul_le_mul_of_nonneg_right hl (show 0<=p by omega);have h2:=Int.mul_nonneg hb hq;omega
   have bE:H.2<=q0:=by
    have J:=Int.mul_le_mul_of_nonneg_left (show(1:Int)<=q by omega) (show 0<=H.2 by omega);have h2:=Int.mul_nonneg (show 0<=l.2 by omega) V;omega
   have hD:p<=q0:=by
    have J:=Int.mul_le_mul_of_nonneg_right hl (show 0<=p by omega);have h2:=Int.mul_nonneg hb hq;omega
   have O:q0*H.1 - p0*H.2=r*(H.1*l.2 - l.1*H.2):=by rw[<-f1,<-f2];grind
   have bB:InC H:=by
    have J:=gR cA cB (by omega) (by omega) bE V (by omega) O Z;exact⟨J.1,J.2,by omega,by omega⟩
   have aU:Fp p q=n :: Fp q r:=by rw[M0 U,hn,hr]
   have aX:F4 b l (n :: Fp q r)=H :: F4 l H (Fp q r):=by rw[F4,<-aD]
   rw[aU,aX];refine⟨by rw[List.length_cons];omega,λx hx=>?_,λc Y=>?_,⟨?_,g4⟩,?_⟩
   ·rcases List.mem_cons.1 hx with rfl|hx
    ·omega
    ·exact g2 x hx
   ·rcases List.mem_cons.1 Y with rfl|Y
    ·exact⟨bB,aJ⟩
    ·exact g3 c Y
   ·exact Z
   ·rw[List.getLast?_cons_cons];exact g5
  ·subst U
   have hp:p=1:=by simp at hg;omega
   subst hp;have Y:=J3 1;rw[Y];refine⟨by simp,by simp,by simp[F4],by simp[F4,ChOk],?_⟩;have J:l=(p0,q0):=Prod.ext (by show l.1=p0;omega) (by show l.2=q0;omega);simp[F4,J]
def Ci (x:Int×Int):List (Int×Int):=(1,0) :: if x.2=0 then []else F4 (0,1) (1,0) (Fp x.1 x.2)
theorem I3 {x:Int×Int} (h:Av x.1 x.2=0):(-1073741824<=x.1/\x.1<=1073741824)/\(0<=x.2/\x.2<=1073741824)/\Int.gcd x.1 x.2=1/\(x.2=0->x.1=1):=by
 unfold Av at h;split at h
 ·cases h
 ·rename_i h1
  split at h
  ·cases h
  ·rename_i h2
   simp only[Hq,Bool.and_eq_false_iff,decide_eq_false_iff_not]at h1;refine⟨by omega,by omega,by omega,λe=>by omega⟩
theorem Wb {x:Int×Int} (h:Av x.1 x.2=0) (hq:x.2≠0):((Fp x.1 x.2).length<=61/\0<(Fp x.1 x.2).length)/\(∀i n,(Fp x.1 x.2)[i]?=some n->-1073741824<=n/\n<=1073741824/\(0<i->1<=n))/\(∀c∈F4 (0,1) (1,0) (Fp x.1 x.2),InC c/\1<=c.2)/\ChOk ((1,0) :: F4 (0,1) (1,0) (Fp x.1 x.2))/\((1,0) :: F4 (0,1) (1,0) (Fp x.1 x.2)).getLast?=some x:=by
 obtain⟨⟨p0,p1⟩,⟨q0,q1⟩,hg,_⟩:=I3 h;obtain⟨p,q⟩:=x;dsimp only at *;have J:=Int.emod_nonneg p hq;have O:=Int.emod_lt_of_pos p (show 0<q by omega);have H:=Int.mul_ediv_add_emod p q;obtain⟨r,hr⟩:∃r,p % q=r:=⟨_,rfl⟩
 obtain⟨n,hn⟩:∃n,p / q=n:=⟨_,rfl⟩
 have Y:Fp p q=n :: Fp q r:=by rw[M0 (by omega),hn,hr]
 rw[hr]at J O H;rw[hn]at H
 have Z:F4 (0,1) (1,0) (n :: Fp q r)=(n,1) :: F4 (1,0) (n,1) (Fp q r):=by
  rw[F4];simp
 have I:-1073741824<=n/\n<=1073741824:=by
  constructor
  ·rcases Int.lt_or_le n (-1073741824)with h|h
   ·exfalso
    have U:=Int.mul_le_mul_of_nonneg_left (show n<=-1073741825 by omega) (show 0<=q by omega);have h2:q*1073741825=q * -1073741825 * -1:=by omega
    omega
   ·exact h
  ·rcases Int.lt_or_le 1073741824 n with h|h
   ·exfalso
    have U:=Int.mul_le_mul_of_nonneg_left (show 1073741825<=n by omega) (show 0<=q by omega);omega
   ·exact h
 have aD:Int.gcd q r=1:=O2 H hg
 have aJ:q*r<2 ^ 60:=by
  have U:=Int.mul_le_mul (show q<=1073741824 by omega) (show r<=1073741823 by omega) J (by omega);have h2:(2:Int) ^ 60=1152921504606846976:=by decide
  omega
 obtain⟨g1,g2,g3,g4,g5⟩:=aF (p0:=p) (q0:=q) p0 p1 q1 60 q r (1,0) (n,1) J O aJ aD (by dsimp only;rw[<-H,Int.mul_comm];omega) (by dsimp only;omega) (by dsimp only;omega) (by dsimp only;omega) (by dsimp only;omega);rw[Y,Z];refine⟨⟨by rw[List.length_cons];omega,by simp⟩,λi z hz=>?_,λc V=>?_,⟨?_,g4⟩,?_⟩
 ·cases i with
  | zero=>simp at hz;subst hz;exact⟨I.1,I.2,λh=>absurd h (Nat.lt_irrefl 0)⟩
  | succ i=>
   have U:=g2 z (List.mem_of_getElem? (by simpa using hz));exact⟨by omega,by omega,λ_=>U.1⟩
 ·rcases List.mem_cons.1 V with rfl|V
  ·exact⟨⟨I.1,I.2,by dsimp only;omega,by dsimp only;omega⟩,by dsimp only;omega⟩
  ·exact g3 c V
 ·unfold Nb;dsimp only;omega
 ·rw[List.getLast?_cons_cons];exact g5
theorem Nr {x:Int×Int} (h:Av x.1 x.2=0):(Ci x).length<=62/\(∀c∈Ci x,InC c/\Gd c)/\ChOk (Ci x)/\(Ci x).getLast?=some x:=by
 have I:InC ((1,0):Int×Int):=⟨by decide,by decide,by decide,by decide⟩
 unfold Ci;by_cases hq:x.2=0
 ·rw[if_pos hq]
  have Y:=(I3 h).2.2.2 hq;refine⟨by simp,λc H=>?_,by simp[ChOk],?_⟩
  ·simp at H;subst H;exact⟨I,⟨by decide,λ_=>rfl⟩⟩
  ·have:x=(1,0):=Prod.ext Y hq
   rw[this];rfl
 ·rw[if_neg hq]
  obtain⟨Z,a2,J,O,U⟩:=Wb h hq;refine⟨by rw[List.length_cons,Gh];omega,λc H=>?_,O,U⟩;rcases List.mem_cons.1 H with rfl|H
  ·exact⟨I,⟨by decide,λ_=>rfl⟩⟩
  ·have V:=J c H
   exact⟨V.1,⟨by omega,λe=>by omega⟩⟩
theorem ChOk.get:∀{l:List (Int×Int)},ChOk l->∀(j:Nat) (a b:Int×Int),l[j]?=some a->l[j+1]?=some b->Nb a b
 | [],_,j,a,b,h,_=>by simp at h
 | [c],_,j,a,b,h,h'=>by simp at h'
 | c :: d :: r,h,0,a,b,ha,hb=>by simp at ha hb;subst ha;subst hb;exact h.1
 | c :: d :: r,h,j+1,a,b,ha,hb=>ChOk.get (l:=d :: r) h.2 j a b (by simpa using ha) (by simpa using hb)
structure ChainOk (a b:Int×Int) (ch:List (Int×Int)):Prop where
 len:ch.length<=124
 pos:0<ch.length
 first:ch[0]?=some a
 last:ch[ch.length - 1]?=some b
 good:∀c∈ch,InC c/\Gd c
 nb:∀j c d,ch[j]?=some c->ch[j+1]?=some d->Nb c d
theorem Q0 {a b:Int×Int} (ha:Av a.1 a.2=0) (hb:Av b.1 b.2=0) {c:Nat} (hc:0<c) (h1:c<=(Ci a).length) (h2:c<=(Ci b).length) (he:∀j,j<c->(Ci a)[j]?=(Ci b)[j]?):ChainOk a b (((Ci a).drop (c - 1)).reverse++(Ci b).drop c):=by
 obtain⟨a1,a2,a3,a4⟩:=Nr ha;obtain⟨b1,b2,b3,Z⟩:=Nr hb;rw[List.getLast?_eq_getElem?]at a4 Z;obtain⟨H,I⟩:∃H,(Ci a).length=H:=⟨_,rfl⟩
 obtain⟨U,Y⟩:∃U,(Ci b).length=U:=⟨_,rfl⟩
 rw[I]at a1 a4 h1;rw[Y]at b1 Z h2;have hl:(((Ci a).drop (c - 1)).reverse++(Ci b).drop c).length=(H - (c - 1))+(U - c):=by simp[I,Y]
 have V:∀j,j<H - (c - 1)->(((Ci a).drop (c - 1)).reverse++(Ci b).drop c)[j]?=(Ci a)[H - 1 - j]?:=λj hj=>by
  rw[List.getElem?_append_left (by simp[I];omega),List.getElem?_reverse (by simp[I];omega),List.getElem?_drop];congr 1;simp[I];omega
 have hR:∀j,H - (c - 1)<=j->(((Ci a).drop (c - 1)).reverse++(Ci b).drop c)[j]?=(Ci b)[c+(j - (H - (c - 1)))]?:=λj hj=>by
  rw[List.getElem?_append_right (by simp[I];omega),List.getElem?_drop];congr 1;simp[I]
 refine⟨by rw[hl];omega,by rw[hl];omega,by rw[V 0 (by omega)];exact a4,?_,λx J=>?_,λj x y J O=>?_⟩
 ·rw[hl]
  by_cases h:U=c
  ·rw[V _ (by omega),show H - 1 - ((H - (c - 1))+(U - c) - 1)=c - 1 by omega,he (c - 1) (by omega),<-Z,h]
  ·rw[hR _ (by omega),<-Z]
   congr 1;omega
 ·rcases List.mem_append.1 J with J|J
  ·exact a2 x (List.mem_of_mem_drop (List.mem_reverse.1 J))
  ·exact b2 x (List.mem_of_mem_drop J)
 ·have hj:j+1<(H - (c - 1))+(U - c):=by rw[<-hl];exact(List.getElem?_eq_some_iff.1 O).1
  by_cases h3:j+1<H - (c - 1)
  ·rw[V j (by omega)]at J
   rw[V (j+1) h3]at O;exact(a3.get (H - 1 - (j+1)) y x O (by rw[show H - 1 - (j+1)+1=H - 1 - j by omega];exact J)).symm
  ·by_cases h4:j<H - (c - 1)
   ·rw[V j h4,show H - 1 - j=c - 1 by omega,he (c - 1) (by omega)]at J
    rw[hR (j+1) (by omega),show c+(j+1 - (H - (c - 1)))=c - 1+1 by omega]at O;exact b3.get (c - 1) x y J O
   ·rw[hR j (by omega)]at J
    rw[hR (j+1) (by omega),show c+(j+1 - (H - (c - 1)))=c+(j - (H - (c - 1)))+1 by omega]at O;exact b3.get _ x y J O
section
open Go.RowKit Tryz
def OwnI (l:List Int) (w:World) (B:Nat) (v:Value):Prop:=OwnK NotU32 w B 3 1 v l.length (l.map (Value.int .i64))
def cusps (l:List (Int×Int)):List Value:=l.flatMap λc=>[.int .i64 c.1,.int .i64 c.2]
def OwnC (l:List (Int×Int)) (w:World) (B:Nat) (v:Value):Prop:=OwnK NotU32 w B 47 2 v l.length (cusps l)
theorem OwnI.push {l:List Int} {w':World} {B:Nat} {H:Value} {a:Int} (h:OwnK NotU32 w' B 3 1 H (l.length+1) (l.map (Value.int .i64)++[.int .i64 a])):OwnI (l++[a]) w' B H:=by
 unfold OwnI;rw[List.length_append,List.map_append];exact h
theorem OwnC.push {l:List (Int×Int)} {w':World} {B:Nat} {H:Value} {a:Int×Int} (h:OwnK NotU32 w' B 47 2 H (l.length+1) (cusps l++[.int .i64 a.1,.int .i64 a.2])):OwnC (l++[a]) w' B H:=by
 unfold OwnC cusps at *;rw[List.length_append,List.flatMap_append];exact h
theorem Hx:∀(l:List (Int×Int)) (j:Nat) (c:Int×Int),l[j]?=some c->(cusps l)[j*2]?=some (.int .i64 c.1)/\(cusps l)[j*2+1]?=some (.int .i64 c.2)
 | [],j,c,h=>by simp at h
 | x :: l,0,c,h=>by simp at h;subst h;exact⟨rfl,rfl⟩
 | x :: l,j+1,c,h=>by
  have I:=Hx l j c (by simpa using h);have H:(j+1)*2=j*2+1+1:=by omega
  unfold cusps at *;rw[List.flatMap_cons,H];exact I
theorem Ck:∀l:List (Int×Int),(cusps l).length=l.length*2
 | []=>rfl
 | x :: l=>by
  have H:=Ck l;unfold cusps at *;rw[List.flatMap_cons,List.length_append,H,List.length_cons];show 2+l.length*2=(l.length+1)*2;omega
theorem Vl (p q:Int) (w:World) (h:Av p q=0) (cA:q≠0):
  Calls prog 157 #[.agg #[.int .i64 p,.int .i64 q]] w λe w'=>(∃v,e=.returned (.tuple #[v,.int .i64 0])/\OwnI (Fp p q) w' w.heap.size v)/\Below w.heap.size w w':=by
 obtain⟨⟨p1,p2⟩,⟨q1,q2⟩,_,_⟩:=I3 (x:=(p,q)) h;dsimp only at p1 p2 q1 q2;have cD:=Kh (λw1=>C3 p q w1 (by omega) (by omega) (by omega) (by omega));rw[h]at cD;obtain⟨L,hL⟩:∃L,Fp p q=L:=⟨_,rfl⟩
 have HL:=Kh hL;have gF:=Kh (show L.length<=61 from hL▸(Wb (x:=(p,q)) h cA).1.1);rw[hL];have cT:=Kh (show(-1073741824<=p/\p<=1073741824)/\0<q/\q<=1073741824 by omega);have HN:=Kh (OwnK.nil NotU32 w w.heap.size 3 1);clear h hL p1 p2 q1 q2;have gS:(q==0)=false:=by rw[beq_eq_false_iff_ne];exact cA
 go_enter func157,ntmps157
 go_wp2_with fail
 obtain⟨w0,dC,X0,bB⟩:=bx1 w #[.int .i64 p,.int .i64 q] 47;rw[dC];refine(cD.1 w0).mono ?_;rintro e w1 ⟨rfl,bC⟩;have X1:=X0.below_ bC X0.lt;have x0:=X1.at_ 0 rfl;have x1:=X1.at_ 1 rfl;have cC:=Kh (bB.trans (bC.mono bB.size));clear dC X0 bB bC X1;go_upto_region 7 with(fail)
 go_quiet (fail)
 have aU:=Kh (show Below w.heap.size w (w1.drewN nq)from Aa cC.1 nq);generalize w1.drewN nq=w2 at aU ⊢;have cG:=Kh (show OwnI [] w2 w.heap.size (.slice none 0 0)from OwnK.nil NotU32 w2 w.heap.size 3 1);clear x0 x1 cC HN cA gS;go_wp2_with fail
 go_loopw [5,6,7] (λvl vp vq wr=>∃(Y:List Int) (P Q:Int),vp=.int .i64 P/\vq=.int .i64 Q/\OwnI Y wr w.heap.size vl/\Below w.heap.size w wr/\Hd (Y++Fp P Q=L/\(-1073741824<=P/\P<=1073741824)/\0<=Q/\Q<=1073741824)) (λ_ _ q _=>(intOf q).toNat)
 case atStart=>exact⟨[],p,q,rfl,rfl,cG.1,aU.1,Kh ⟨HL.1,cT.1.1,by have:=cT.1;omega⟩⟩
 case round=>
  obtain⟨Y,P,Q,rfl,rfl,aT,cX,O⟩:=hrel;obtain⟨wi,rfl⟩:∃wi:World,wi=wr:=⟨_,rfl⟩
  have HO:=Kh aT;have HB:=Kh cX;have V:=HB.1.size;clear aT cX cG aU;by_cases hQ:Q=0
  ·have HF:=Kh (show OwnI L wi w.heap.size u5 by
    have h1:=O.1.1;rw[hQ,J3,List.append_nil]at h1;rw[<-h1];exact HO.1)
   subst hQ;clear O V HO;go_wp2
   (first|go_ret2|go_ret)
   exact⟨⟨_,rfl,HF.1⟩,HB.1⟩
  ·have aJ:0<Q:=by have:=O.1;omega
   have J:=O.1.1;rw[M0 aJ]at J;have bE:=Int.emod_nonneg P hQ;have bY:=Int.emod_lt_of_pos P aJ;have aL:=Int.mul_ediv_add_emod P Q;obtain⟨R,hR⟩:∃R,P % Q=R:=⟨_,rfl⟩
   obtain⟨N,hN⟩:∃N,P / Q=N:=⟨_,rfl⟩
   rw[hR]at bE bY aL J;rw[hN]at aL J;have cF:=Kh (show(Y++[N])++Fp Q R=L by rw[<-J];simp)
   have dE:Y.length+1<=61:=by
    have h1:=gF.1;rw[<-J]at h1;simp at h1;omega
   have aD:=Kh dE;have Z:=Kh (show 0<=R/\R<Q from⟨bE,bY⟩);obtain⟨T,hT⟩:∃T,P.tmod Q=T:=⟨_,rfl⟩
   have aK:(if T<0 then T+Q else T)=R:=by
    rw[<-hT,<-hR];have h1:=Int.tmod_eq_emod (a:=P) (b:=Q);have h4:=Int.emod_lt_of_pos P aJ;have h5:=Int.emod_nonneg P hQ;split at h1 <;> split <;> omega
   have hV:-1073741824<=T/\T<=1073741824:=by have:=O.1;split at aK <;> omega
   have hW:(P - R).tdiv Q=N:=by
    rw[<-aL,Int.add_sub_cancel];exact Int.mul_tdiv_cancel_left N hQ
   have hS:-2147483648<=P - R/\P - R<=2147483648:=by have:=O.1;omega
   have hP:-2147483648<=N/\N<=2147483648:=by
    have h1:=O.1;constructor
    ·rcases Int.lt_or_le N (-2147483648)with h|h
     ·have:=Int.mul_le_mul_of_nonneg_left (show N<=-2147483649 by omega) (show 0<=Q by omega)
      omega
     ·exact h
    ·rcases Int.lt_or_le 2147483648 N with h|h
     ·have:=Int.mul_le_mul_of_nonneg_left (show 2147483649<=N by omega) (show 0<=Q by omega)
      omega
     ·exact h
   have kY:IntKind.i64.wrap R=R:=IntWalk.i64_in _ (by have:=O.1;omega);have kZ:IntKind.i64.wrap (P - R)=P - R:=IntWalk.i64_in _ (by omega);have lA:IntKind.i64.wrap N=N:=IntWalk.i64_in _ (by omega);clear bE bY aL J dE hN hR aJ;by_cases hT0:T<0
   ·rw[if_pos hT0]at aK
    go_wp2_with (at_builtin;refine Bj NotU32 rfl (.tmp 31) (.tmp 37) _ 3 rfl underlying93 Ep rfl (by decide) w.heap.size Y.length u5 (Y.map (Value.int .i64)) [.int .i64 N] rfl HO.1 rfl rfl (Sm N) (by have:=aD.1;omega) (by have:=aD.1;omega) V (Sl N) Xl ?_;intro v3 w3 H I U;have bA:=Kh (OwnI.push H);have aX:=Kh (Aw HB.1 HO.1.1 I (kT _) V);clear H I U)
    go_roundw
    case rel=>exact⟨Y++[N],Q,R,rfl,rfl,bA.1,aX.1,Kh ⟨cF.1,by have:=O.1;omega,by have:=O.1;have:=Z.1;omega⟩⟩
    case measure=>have:=Z.1;simp[intOf];omega
   ·rw[if_neg hT0]at aK
    obtain rfl:R=T:=aK.symm;go_wp2_with (at_builtin;refine Bj NotU32 rfl (.tmp 31) (.tmp 37) _ 3 rfl underlying93 Ep rfl (by decide) w.heap.size Y.length u5 (Y.map (Value.int .i64)) [.int .i64 N] rfl HO.1 rfl rfl (Sm N) (by have:=aD.1;omega) (by have:=aD.1;omega) V (Sl N) Xl ?_;intro v3 w3 H I U;have bA:=Kh (OwnI.push H);have aX:=Kh (Aw HB.1 HO.1.1 I (kT _) V);clear H I U)
    go_roundw
    case rel=>exact⟨Y++[N],Q,R,rfl,rfl,bA.1,aX.1,Kh ⟨cF.1,by have:=O.1;omega,by have:=O.1;have:=Z.1;omega⟩⟩
    case measure=>have:=Z.1;simp[intOf];omega
theorem OwnC.low {l:List (Int×Int)} {w:World} {B B':Nat} {v:Value} (h:OwnC l w B v) (hB:B'<=B):OwnC l w B' v:=⟨h.1.mono hB,h.2⟩
theorem La (Y:List Int) (g cap:Nat) (w:World) (h0:0<Y.length) (dE:Y.length<=64) (hg:g<w.heap.size) (hc:∀(i:Nat) (n:Int),Y[i]?=some n->w.cell? ⟨g,i,none⟩=some (.int .i64 n))
  (hr:∀(i:Nat) (n:Int),Y[i]?=some n->-1073741824<=n/\n<=1073741824/\(0<i->1<=n)) (hQ:∀c∈F4 (0,1) (1,0) Y,InC c):
  Calls prog 158 #[.slice (some ⟨g,0,none⟩) Y.length cap] w λe w'=>(∃v,e=.returned (.tuple #[v,.int .i64 0])/\OwnC (F4 (0,1) (1,0) Y) w' w.heap.size v)/\Below w.heap.size w w':=by
 obtain⟨N,hN⟩:∃N,Y.length=N:=⟨_,rfl⟩
 have lJ:=Kh hN;have HC:=Kh (λW (hb:Below w.heap.size w W) (i:Nat) (n:Int) (hi:Y[i]?=some n)=>(show W.cell? ⟨g,i,none⟩=some (.int .i64 n)from(hb.cell (p:=⟨g,i,none⟩) hg).trans (hc i n hi)));have HR:=Kh hr;have lI:=Kh hQ;have gN:=Kh (show ∀i,i<N->∃n,Y[i]?=some n from λi hi=>⟨_,List.getElem?_eq_getElem (by omega)⟩);rw[hN]at h0 dE ⊢;have mS:¬(N:Int)=0:=by omega
 have mT:¬(64:Int)<(N:Int):=by omega
 have cD:=Kh dE;clear hc hr hQ hg dE hN;go_enter func158,ntmps158
 go_wp2_with fail
 go_loopw [19] (λii wr=>∃i:Nat,i<=N/\ii=.int .i64 i/\wr=w) (λii _=>N - (intOf ii).toNat)
 case atStart=>exact⟨0,Nat.zero_le _,rfl,rfl⟩
 case round=>
  obtain⟨i,hi,rfl,hX⟩:=hrel;obtain rfl:w=wr:=hX.symm;clear hX;by_cases hlt:i<N
  ·obtain⟨n,hn⟩:=gN.1 i hlt
   have hP:=HC.1 w (Below.refl _ w) i n hn;have aK:=HR.1 i n hn;have lV:Hq n=true:=Dc.2 ⟨aK.1,aK.2.1⟩;have lU:(i:Int)<(N:Int):=by omega
   have lL:=Kh (show 0<i->1<=n from aK.2.2);clear hn aK;go_wp2_with fail
   refine(Vx n w).mono ?_;rintro e w' ⟨rfl,aD⟩;obtain rfl:w=w':=aD.symm;rw[lV];by_cases hi0:i=0
   ·subst hi0
    go_wp2;go_roundw
    case rel=>exact⟨0+1,by omega,by go_num,by first|rfl|trivial⟩
    case measure=>simp[intOf];omega
   ·have mV:(0:Int)<(i:Int):=by omega
    have mW:0<i:=by omega
    have mX:¬n<1:=by have:=lL.1 (by omega);omega
    go_wp2;go_roundw
    case rel=>exact⟨i+1,by omega,by go_num,by first|rfl|trivial⟩
    case measure=>simp[intOf];omega
  ·obtain rfl:N=i:=by omega
   go_wp2_with fail
   obtain⟨w2,hW,XA,XB,eP⟩:=bx2 w #[.int .i64 0,.int .i64 1] 47 #[.int .i64 1,.int .i64 0] 47;rw[hW];obtain⟨ga,gA⟩:∃x,w.heap.size=x:=⟨_,rfl⟩
   obtain⟨gb,gF⟩:∃x,w.heap.size+1=x:=⟨_,rfl⟩
   have gS:=Kh gA;have gU:=Kh gF;rw[gF]at XB ⊢;rw[gA]at XA ⊢;have HA:=Kh XA;have gP:=Kh XB;have cA:=Kh eP;obtain⟨B2,hL⟩:∃x,w2.heap.size=x:=⟨_,rfl⟩
   have aJ:=Kh (show ga<B2/\gb<B2/\w.heap.size<=B2 by have h1:=XA.lt;have h2:=XB.lt;have h3:=eP.size;omega);have hE:=Kh hL;clear hW XA XB eP gA gF hlt hL;go_loopw [6,40] (λvl ii wr=>∃(i:Nat) (b l:Int×Int) (J:List (Int×Int)),i<=N/\ii=.int .i64 i/\OwnC J wr B2 vl/\B2<=wr.heap.size/\Blk wr ga 47 #[.int .i64 b.1,.int .i64 b.2]/\Blk wr gb 47 #[.int .i64 l.1,.int .i64 l.2]/\Below w.heap.size w wr/\Hd (J++F4 b l (Y.drop i)=F4 (0,1) (1,0) Y/\J.length=i/\(-1073741824<=b.1/\b.1<=1073741824/\-1073741824<=b.2/\b.2<=1073741824)/\(-1073741824<=l.1/\l.1<=1073741824/\-1073741824<=l.2/\l.2<=1073741824))) (λ_ ii _=>N - (intOf ii).toNat)
   case atStart=>exact⟨0,(0,1),(1,0),[],Nat.zero_le _,rfl,OwnK.nil NotU32 w2 B2 47 2,Nat.le_of_eq hE.1.symm,HA.1,gP.1,cA.1,Kh ⟨rfl,rfl,by decide,by decide⟩⟩
   case round=>
    obtain⟨i,⟨O,U⟩,⟨H,I⟩,J,hi,rfl,cG,aL,hA,dY,hO,HI⟩:=hrel;dsimp only at hA dY HI;obtain⟨wi,rfl⟩:∃wi:World,wi=wr:=⟨_,rfl⟩
    have HO:=Kh cG;have Z:=Kh hA;have h:=Kh dY;have HB:=Kh hO;have cT:=Kh aL;clear cG hA dY hO HA gP cA hE aL;by_cases hlt:i<N
    ·obtain⟨n,hn⟩:=gN.1 i hlt
     have hP:=HC.1 wi HB.1 i n hn;have aK:=HR.1 i n hn;have lU:(i:Int)<(N:Int):=by omega
     obtain⟨e1,e2,e3,e4⟩:=HI.1
     have hR:Y.drop i=n :: Y.drop (i+1):=by
      obtain⟨hU,e⟩:=List.getElem?_eq_some_iff.1 hn;rw[List.drop_eq_getElem_cons hU,e]
     rw[hR,F4]at e1;dsimp only at e1;have hV:InC (n*H+O,n*I+U):=lI.1 _ (by rw[<-e1];exact List.mem_append_right _ (List.mem_cons_self ..));obtain⟨m1,m2,m3,m4⟩:=hV;dsimp only at m1 m2 m3 m4;have lW:-1073741824 - 1073741824<=n*H/\n*H<=1073741824+1073741824:=by omega
     have lX:-1073741824 - 1073741824<=n*I/\n*I<=1073741824+1073741824:=by omega
     have lY:IntKind.i64.wrap (n*H)=n*H:=IntWalk.i64_in _ (by omega);have lZ:IntKind.i64.wrap (n*I)=n*I:=IntWalk.i64_in _ (by omega);have mA:IntKind.i64.wrap (n*H+O)=n*H+O:=IntWalk.i64_in _ (by omega);have mB:IntKind.i64.wrap (n*I+U)=n*I+U:=IntWalk.i64_in _ (by omega);have HE:=Kh (show(J++[(n*H+O,n*I+U)])++F4 (H,I) (n*H+O,n*I+U) (Y.drop (i+1))=F4 (0,1) (1,0) Y by rw[<-e1];simp);have lG:=Kh (show(J++[(n*H+O,n*I+U)]).length=i+1/\(-1073741824<=H/\H<=1073741824/\-1073741824<=I/\I<=1073741824)/\(-1073741824<=n*H+O/\n*H+O<=1073741824/\-1073741824<=n*I+U/\n*I+U<=1073741824)from⟨by simp[e2],e4,m1,m2,by omega,m4⟩);have hD:=Kh e2;have hS:Hq (n*H+O)=true:=Dc.2 ⟨m1,m2⟩;have hT:Hq (n*I+U)=true:=Dc.2 ⟨by omega,m4⟩;clear e1 e2 e3 e4 hR m1 m2 m3 m4 lW lX aK hn HI;have a0:=Z.1.at_ 0 rfl;have a1:=Z.1.at_ 1 rfl;have b0:=h.1.at_ 0 rfl;have lN:=h.1.at_ 1 rfl;have lP:=Z.1.free_ 0;have lQ:=Z.1.free_ 1;have lR:=h.1.free_ 0;have lS:=h.1.free_ 1;have aX:ga≠gb:=by have:=gS.1;have:=gU.1;omega
     go_upto_region 16 with(fail)
     go_region
     have XA:=(Z.1.set_ 0 (.int .i64 H)).set_ 1 (.int .i64 I);have bA:w.heap.size<=ga:=Nat.le_of_eq gS.1;have bB:w.heap.size<=gb:=by have:=gU.1;omega
     have dC:=((XA.far_ (p:=⟨gb,0,none⟩) aX (.int .i64 (n*H+O))).far_ (p:=⟨gb,1,none⟩) aX (.int .i64 (n*I+U))).drew_;have aU:=((((h.1.far_ (p:=⟨ga,0,none⟩) (λe=>aX e.symm) (.int .i64 H)).far_ (p:=⟨ga,1,none⟩) (λe=>aX e.symm) (.int .i64 I)).set_ 0 (.int .i64 (n*H+O))).set_ 1 (.int .i64 (n*I+U))).drew_;obtain⟨ws,bE⟩:∃ws,((((wi.setCell ⟨ga,0,none⟩ (.int .i64 H)).setCell ⟨ga,1,none⟩ (.int .i64 I)).setCell ⟨gb,0,none⟩ (.int .i64 (n*H+O))).setCell ⟨gb,1,none⟩ (.int .i64 (n*I+U))).drew=ws:=⟨_,rfl⟩
     rw[bE]at dC aU ⊢;have lH:=Kh (show Below w.heap.size w ws from bE▸((((HB.1.setCell (p:=⟨ga,0,none⟩) bA _).setCell (p:=⟨ga,1,none⟩) bA _).setCell (p:=⟨gb,0,none⟩) bB _).setCell (p:=⟨gb,1,none⟩) bB _).drew)
     have cB:=Kh (show OwnC J ws B2 u6 by
      obtain⟨q1,q2,q3⟩:=aJ.1;rw[<-bE];have h1:=(((OwnK.other (a:=⟨ga,0,none⟩) HO.1 q1 (int_i64 H)).other (a:=⟨ga,1,none⟩) q1 (int_i64 I)).other (a:=⟨gb,0,none⟩) q2 (int_i64 (n*H+O))).other (a:=⟨gb,1,none⟩) q2 (int_i64 (n*I+U));exact h1.keep (Below.refl _ _).drew)
     have aL:B2<=ws.heap.size:=by rw[<-bE];simpa using cT.1
     have lD:=Kh dC;have cA:=Kh aU;have c0:=aU.at_ 0 rfl;have c1:=aU.at_ 1 rfl;clear XA dC aU bE a0 a1 b0 lN lP lQ lR lS aX hP Z h HO HB cT lY lZ mA mB bA bB;go_wp2_with fail
     refine(Vx (n*H+O) ws).mono ?_;rintro e w' ⟨rfl,aD⟩;obtain rfl:ws=w':=aD.symm;rw[hS];clear aD;go_wp2_with fail
     refine(Vx (n*I+U) ws).mono ?_;rintro e w' ⟨rfl,aD⟩;obtain rfl:ws=w':=aD.symm;rw[hT];clear aD;go_wp2_with (at_builtin;refine Bj NotU32 rfl (.tmp 70) (.tmp 72) _ 47 rfl underlying128 Fb rfl (by decide) B2 J.length u6 (cusps J) [.int .i64 (n*H+O),.int .i64 (n*I+U)] rfl cB.1 rfl rfl (bW _ _) (by have:=hD.1;have:=cD.1;omega) (by have:=hD.1;have:=cD.1;omega) aL (bV _ _) Sk ?_;intro v3 w3 bC V hM;have lK:=Kh (OwnC.push (a:=(n*H+O,n*I+U)) bC);have lF:=Kh (Aw lH.1 cB.1.1 V aJ.1.2.2 (kU aJ.1.2.2 aL));have lE:=Kh (lD.1.grown_ V (λe=>by have:=Ch cB.1.1 e;have:=aJ.1.1;omega));have hG:=Kh (cA.1.grown_ V (λe=>by have:=Ch cB.1.1 e;have:=aJ.1.2.1;omega));have lM:=Kh (kU aL V.size);clear bC V hM)
     go_roundw
     case rel=>exact⟨i+1,(H,I),(n*H+O,n*I+U),_,by omega,by go_num,lK.1,lM.1,lE.1,hG.1,lF.1,Kh ⟨HE.1,lG.1⟩⟩
     case measure=>simp[intOf];omega
    ·obtain rfl:N=i:=by omega
     have HF:=Kh (show OwnC (F4 (0,1) (1,0) Y) wi w.heap.size u6 by
      have h1:=HI.1.1;rw[List.drop_eq_nil_of_le (by have:=lJ.1;omega),F4,List.append_nil]at h1;rw[<-h1];exact HO.1.low aJ.1.2.2)
     clear HI HO hlt cT Z h;go_wp2
     (first|go_ret2|go_ret)
     exact⟨⟨_,rfl,HF.1⟩,HB.1⟩
end
end Go.Proofs.YtenlbhlllgppmaaGreatDoor
