/- Contracts of the references' Fundamental, Psi and Check. -/
import Derived.Test.YtenlbhlllgppmaaGreatDoorC04
set_option maxHeartbeats 8000000
namespace Go.Proofs.YtenlbhlllgppmaaGreatDoor
open Go.RowKit Tryz
theorem lA (p b:Nat) (h:p<=b):p*p<=b*b:=Nat.mul_le_mul h h
theorem c_free (n:Nat) (w:World) (hn:n<=1000) (x:Int) (hx:x=n∨x=-(n:Int)):
  Calls prog 182 #[.int .i64 x] w λen w'=>en=.returned (.bool (Pl.free n))/\w'=w:=by
 have V:-1000<=x/\x<=1000:=by omega
 obtain⟨V,bC⟩:=V;have h:(if x < -x then -x else x)=(n:Int):=by split <;> omega
 go_enter func182,ntmps182
 go_wp2;clear h hx;go_loop [3] (λx=>∃(p f:Nat),x=.int .i64 p/\1<p/\p<=n+2/\n<p+f/\Pl.freeGo f p n=Pl.free n) (λx=>n+2 - (intOf x).toNat)
 case atStart=>exact⟨2,n+1,rfl,by omega,by omega,by omega,rfl⟩
 case round=>
  obtain⟨p,f,rfl,hp,bA,hf,I⟩:=hrel;obtain⟨J,E⟩:∃J:Nat,J=p*p:=⟨_,rfl⟩
  have aN:(p:Int)*(p:Int)=(J:Int):=by rw[E];exact(Int.natCast_mul _ _).symm
  have aK:J<=2000000:=by rw[E];exact nM (lA p 1002 (by omega)) (by omega)
  have aD:p*2<=J:=by rw[E];exact Nat.mul_le_mul_left _ (by omega)
  by_cases hle:J<=n
  ·obtain⟨g,rfl⟩:∃g,f=g+1:=⟨f - 1,by omega⟩
   rw[Pl.freeGo,<-E,if_pos hle]at I;by_cases hd:n % J=0
   ·rw[if_pos hd]at I
    have Z:((n:Int) % (J:Int)==0)=true:=by rw[<-Int.natCast_emod,hd];rfl
    have O:=Kh I;have U:=Kh E;clear I E hd;go_wp2;go_ret;exact⟨Cx O.1,rfl⟩
   ·rw[if_neg hd]at I
    have Z:((n:Int) % (J:Int)==0)=false:=by rw[<-Int.natCast_emod];simp;omega
    have O:=Kh I;have U:=Kh E;clear I E hd;go_wp2;go_round
    case rel=>exact⟨p+1,g,by go_num,by omega,by omega,by omega,O.1⟩
    case measure=>simp[intOf];omega
  ·have M:Pl.free n=true:=by
    rw[<-I];cases f with
    | zero=>rfl
    | succ f=>rw[Pl.freeGo,<-E,if_neg hle]
   have O:=Kh M;have U:=Kh E;clear I E M;go_wp2;go_ret;exact⟨Cx O.1.symm,rfl⟩
theorem Eb (d:Int) (w:World) (hd:-120<=d) (bB:d<=120):
  Calls prog 139 #[.int .i64 d] w λen w'=>en=.returned (.bool (Pl.fundR d))/\w'=w:=by
 by_cases h0:d=0
 ·subst h0
  go_enter func139,ntmps139
  go_wp2;go_ret;exact⟨Cx (by simp[Pl.fundR]),rfl⟩
 by_cases h1:d=1
 ·subst h1
  go_enter func139,ntmps139
  go_wp2;go_ret;exact⟨Cx (by simp[Pl.fundR]),rfl⟩
 have I:Pl.fundR d=((decide (d % 4=1)&&Pl.free d.natAbs)||(decide (d % 4=0)&&decide (2<=(d / 4) % 4)&&Pl.free (d / 4).natAbs)):=by simp[Pl.fundR,h0,h1]
 by_cases h2:d % 4=1
 ·have E:Pl.fundR d=Pl.free d.natAbs:=by rw[I];simp[h2]
  have bC:(d.tmod 4==0)=false:=by simp[F5];omega
  have J:=Kh E;have h:(d % 4==1)=true:=by simp[h2]
  clear I E h2;by_cases h3:Pl.free d.natAbs=true
  ·go_enter func139,ntmps139
   have O:=Kh h3;clear h3;go_wp2_with (first |(go_at_call 181;refine(Ls _ _ _ (by omega) (by omega)).mono ?_;rintro e w' ⟨rfl,rfl⟩) |(go_at_call 182;refine(c_free d.natAbs _ (by omega) _ (by omega)).mono ?_;rw[O.1];rintro e w' ⟨rfl,rfl⟩))
   go_ret;exact⟨Cx (by rw[J.1,O.1]),rfl⟩
  ·have V:Pl.free d.natAbs=false:=by simpa using h3
   go_enter func139,ntmps139
   have O:=Kh V;clear h3 V;go_wp2_with (first |(go_at_call 181;refine(Ls _ _ _ (by omega) (by omega)).mono ?_;rintro e w' ⟨rfl,rfl⟩) |(go_at_call 182;refine(c_free d.natAbs _ (by omega) _ (by omega)).mono ?_;rw[O.1];rintro e w' ⟨rfl,rfl⟩))
   go_ret;exact⟨Cx (by rw[J.1,O.1]),rfl⟩
 ·have h:(d % 4==1)=false:=by simpa using h2
  by_cases h3:d % 4=0
  ·have aD:(d.tmod 4==0)=true:=by simp[F5,h3]
   have aX:d.tdiv 4=d / 4:=by rw[Int.tdiv_eq_ediv];rw[if_pos (.inr (Int.dvd_of_emod_eq_zero h3))];simp
   have E:Pl.fundR d=(decide (2<=(d / 4) % 4)&&Pl.free (d / 4).natAbs):=by rw[I];simp[h3]
   have J:=Kh E;have hq:-30<=d / 4/\d / 4<=30:=by omega
   obtain⟨aK,aN⟩:=hq;clear I E;generalize d / 4=q at J aX aK aN;by_cases h4:2<=q % 4
   ·have M:decide (2<=q % 4)=true:=by simpa using h4
    by_cases h5:Pl.free q.natAbs=true
    ·go_enter func139,ntmps139
     have U:=Kh h5;clear h5;go_wp2_with (first |(go_at_call 181;refine(Ls _ _ _ (by omega) (by omega)).mono ?_;rintro e w' ⟨rfl,rfl⟩) |(go_at_call 182;refine(c_free q.natAbs _ (by omega) _ (by omega)).mono ?_;rw[U.1];rintro e w' ⟨rfl,rfl⟩))
     go_ret;exact⟨Cx (by rw[J.1,U.1,M];rfl),rfl⟩
    ·have Z:Pl.free q.natAbs=false:=by simpa using h5
     go_enter func139,ntmps139
     have U:=Kh Z;clear h5 Z;go_wp2_with (first |(go_at_call 181;refine(Ls _ _ _ (by omega) (by omega)).mono ?_;rintro e w' ⟨rfl,rfl⟩) |(go_at_call 182;refine(c_free q.natAbs _ (by omega) _ (by omega)).mono ?_;rw[U.1];rintro e w' ⟨rfl,rfl⟩))
     go_ret;exact⟨Cx (by rw[J.1,U.1,M];rfl),rfl⟩
   ·have M:decide (2<=q % 4)=false:=by simpa using h4
    go_enter func139,ntmps139
    go_wp2_with (first |(go_at_call 181;refine(Ls _ _ _ (by omega) (by omega)).mono ?_;rintro e w' ⟨rfl,rfl⟩))
    go_ret;exact⟨Cx (by rw[J.1,M];rfl),rfl⟩
  ·have aD:(d.tmod 4==0)=false:=by simp[F5];omega
   have E:Pl.fundR d=false:=by rw[I];simp[h2,h3]
   have J:=Kh E;clear I E;go_enter func139,ntmps139
   go_wp2_with (first |(go_at_call 181;refine(Ls _ _ _ (by omega) (by omega)).mono ?_;rintro e w' ⟨rfl,rfl⟩))
   go_ret;exact⟨Cx (by rw[J.1]),rfl⟩
theorem Mw (n:Nat) (w:World) (h0:0<n) (hn:n<=120):
  Calls prog 140 #[.int .i64 n] w λen w'=>en=.returned (.int .i64 (Pl.psi n))/\w'=w:=by
 go_enter func140,ntmps140
 go_wp2;go_loop [3,4] (λo x=>∃k:Nat,k+1<=n/\x=.int .i64 ((k+2:Nat):Int)/\o=.int .i64 (Pl.psiAt n k)) (λ_ x=>n+2 - (intOf x).toNat)
 case atStart=>exact⟨0,by omega,rfl,rfl⟩
 case round=>
  obtain⟨k,hk,rfl,rfl⟩:=hrel;have cI:=Pl.psiAt_small n (by omega) k (by omega);obtain⟨o,ho⟩:∃o,Pl.psiAt n k=o:=⟨_,rfl⟩
  obtain⟨p,hp⟩:∃p,k+2=p:=⟨_,rfl⟩
  rw[ho]at cI ⊢;rw[hp];have eG:2<=p:=by omega
  have eP:p<=n+1:=by omega
  have HO:=Kh ho;have U:=Kh hp;clear ho hp hk;by_cases hle:p<=n
  ·go_wp2
   obtain⟨wo,rfl⟩:∃wo:World,wo=w:=⟨_,rfl⟩
   go_loop [5,6] (λb x=>∃j:Nat,j+2<=p/\x=.int .i64 ((j+2:Nat):Int)/\b=.bool (Pl.primeAt p j)) (λ_ x=>p - (intOf x).toNat)
   case atStart=>exact⟨0,by omega,rfl,rfl⟩
   case round=>
    obtain⟨j,hj,rfl,rfl⟩:=hrel;by_cases hlt:j+2<p
    ·have M:((p:Int) % ((j+2:Nat):Int) != 0)=(p % (j+2) != 0):=by
      rw[<-Int.natCast_emod];by_cases h:p % (j+2)=0
      ·rw[h];rfl
      ·have h1:(((p % (j+2):Nat):Int) != 0)=true:=by rw[bne_iff_ne];omega
       have h2:(p % (j+2) != 0)=true:=by simpa using h
       rw[h1,h2]
     have aX:Pl.primeAt p (j+1)=(Pl.primeAt p j&&(p % (j+2) != 0)):=rfl;have V:=Kh aX;clear aX;have HD:=Kh M;clear M;obtain⟨q,hq⟩:∃q,j+2=q:=⟨_,rfl⟩
     rw[hq]at HD V hlt ⊢;have HQ:=Kh hq;have eT:2<=q:=by omega
     clear hq hj;by_cases hb:Pl.primeAt p j=true
     ·rw[hb]
      have HB:=Kh hb;clear hb;go_wp2;go_round
      case rel=>exact⟨j+1,by have:=HQ.1;omega,by have:=HQ.1;go_num,Z5 (by rw[V.1,HB.1,HD.1];rfl)⟩
      case measure=>simp[intOf];omega
     ·have I:Pl.primeAt p j=false:=by simpa using hb
      rw[I];have HB:=Kh I;clear hb I;go_wp2;go_round
      case rel=>exact⟨j+1,by have:=HQ.1;omega,by have:=HQ.1;go_num,Z5 (by rw[V.1,HB.1];rfl)⟩
      case measure=>simp[intOf];omega
    ·have cD:j=k:=by have:=U.1;omega
     subst cD
     have M:((n:Int) % (p:Int)==0)=(n % p==0):=by
      rw[<-Int.natCast_emod];by_cases h:n % p=0
      ·rw[h];rfl
      ·have h1:(((n % p:Nat):Int)==0)=false:=beq_eq_false_iff_ne.2 (by omega)
       have h2:(n % p==0)=false:=by simpa using h
       rw[h1,h2]
     have bA:Pl.psiAt n (j+1)=if Pl.primeAt p j&&(n % p==0)then o / p*(p+1)else o:=by rw[Pl.psiAt,U.1,HO.1]
     have O:=Pl.psiAt_small n (by omega) (j+1) (by have:=U.1;omega);have HD:=Kh M;have HS:=Kh bA;clear M bA;by_cases hb:Pl.primeAt p j=true
     ·rw[hb]
      by_cases hd:(n % p==0)=true
      ·have cC:=HD.1.trans hd
       have E:Pl.psiAt n (j+1)=o / p*(p+1):=by rw[HS.1,hb,hd];rfl
       have h6:((o:Int) / (p:Int))*((p:Int)+1)=((o / p*(p+1):Nat):Int):=by simp
       have h7:=Int.ediv_nonneg (show(0:Int)<=o by omega) (show(0:Int)<=p by omega);have h8:=Int.ediv_le_self (p:Int) (show(0:Int)<=o by omega);have h9:0<=((o:Int) / (p:Int))*((p:Int)+1):=by rw[h6];omega
       have dE:((o:Int) / (p:Int))*((p:Int)+1)<=1000:=by rw[h6,<-E];omega
       have H6:=Kh h6;have J:=Kh E;have HB:=Kh hb;clear h6 E hb hd O;go_wp2;go_round
       case rel=>exact⟨j+1,by have:=U.1;omega,by have:=U.1;go_num,Iw (by rw[H6.1,J.1])⟩
       case measure=>simp[intOf];omega
      ·have Z:(n % p==0)=false:=by simpa using hd
       have cC:=HD.1.trans Z;have E:Pl.psiAt n (j+1)=o:=by rw[HS.1,hb,Z];rfl
       have J:=Kh E;have HB:=Kh hb;clear E hb hd Z O;go_wp2;go_round
       case rel=>exact⟨j+1,by have:=U.1;omega,by have:=U.1;go_num,Iw (by rw[J.1])⟩
       case measure=>simp[intOf];omega
     ·have I:Pl.primeAt p j=false:=by simpa using hb
      rw[I];have E:Pl.psiAt n (j+1)=o:=by rw[HS.1,I];rfl
      have J:=Kh E;clear E hb I O;go_wp2;go_round
      case rel=>exact⟨j+1,by have:=U.1;omega,by have:=U.1;go_num,Iw (by rw[J.1])⟩
      case measure=>simp[intOf];omega
  ·have aN:Pl.psi n=o:=by
    rw[<-HO.1,<-Pl.psi_eq n h0 (by omega)];have:k=n - 1:=by have:=U.1;omega
    rw[this]
   have bE:=Kh aN;clear aN;go_wp2;go_ret;exact⟨A5 (by rw[bE.1]),rfl⟩
theorem Ix (N k D:Int) (w:World) (h:N<1∨120<N∨k<2∨24<k∨D < -120∨120<D):
  Calls prog 89 #[Ku N k D] w λE w'=>E=.returned (.int .i64 (Pl.check N k D))/\Below w.heap.size w w':=by
 rw[Fa h];by_cases h1:N<1
 ·go_enter func89,ntmps89
  go_wp2;go_ret;exact⟨rfl,by go_grown⟩
 by_cases h2:120<N
 ·go_enter func89,ntmps89
  go_wp2;go_ret;exact⟨rfl,by go_grown⟩
 by_cases h3:k<2
 ·go_enter func89,ntmps89
  go_wp2;go_ret;exact⟨rfl,by go_grown⟩
 by_cases h4:24<k
 ·go_enter func89,ntmps89
  go_wp2;go_ret;exact⟨rfl,by go_grown⟩
 by_cases h5:D < -120
 ·go_enter func89,ntmps89
  go_wp2;go_ret;exact⟨rfl,by go_grown⟩
 have I:120<D:=by omega
 go_enter func89,ntmps89
 go_wp2;go_ret;exact⟨rfl,by go_grown⟩
theorem Mr (N k D:Int) (w:World) (hN:1<=N) (cS:N<=120) (hk:2<=k) (dE:k<=24) (hD:-120<=D) (bA:D<=120):
  Calls prog 89 #[Ku N k D] w λen w'=>en=.returned (.int .i64 (Pl.check N k D))/\Below w.heap.size w w':=by
 have HF:Pl.check N k D=if Pl.fund D=false then 15 else if N % D≠0 then 14 else if(D<0/\k % 2=0)∨(0<D/\k % 2=1)then 16 else if 512<(Pl.psi N.toNat:Int)*(k - 1)then 7 else 0:=by
  unfold Pl.check;rw[if_neg (by omega)]
 obtain⟨n,rfl⟩:=Int.eq_ofNat_of_zero_le (show 0<=N by omega);have cC:=Pl.psi_small n (by omega) (by omega);rw[Int.toNat_natCast]at HF;obtain⟨q,hq⟩:∃q,Pl.psi n=q:=⟨_,rfl⟩
 rw[hq]at HF cC;have aN:=Kh HF;clear HF;have HQ:=Kh hq;clear hq;have aD:=Pl.fund_eq D hD bA;by_cases hfd:Pl.fund D=false
 ·have HR:Pl.check n k D=15:=by rw[aN.1,if_pos hfd]
  have bE:=Kh HR;rw[hfd,Bool.or_eq_false_iff]at aD;obtain⟨V,aK⟩:=aD;have V:(D != 1)=true:=by simpa using V
  have U:=Kh aK;clear HR aN hfd aK;go_enter func89,ntmps89
  go_wp2_with (go_at_call 139;refine(Eb _ _ hD bA).mono ?_;rw[U.1];rintro e w' ⟨rfl,rfl⟩)
  all_goals go_ret
  all_goals exact⟨A5 bE.1.symm,by go_grown⟩
 ·have Z:Pl.fund D=true:=by simpa using hfd
  have cM:D≠0:=(fund_yes Z).1;have aX:Pl.check n k D=if(n:Int) % D≠0 then 14 else if(D<0/\k % 2=0)∨(0<D/\k % 2=1)then 16 else if 512<(q:Int)*(k - 1)then 7 else 0:=by rw[aN.1,if_neg hfd]
  have I:=Kh aX
  have aK:D≠1->Pl.fundR D=true:=by
   intro h;rw[Z,Bool.or_eq_true]at aD;rcases aD with h1|h1
   ·exact absurd (of_decide_eq_true h1) h
   ·exact h1
  have U:=Kh aK;have cT:0<=(q:Int)*(k - 1):=Int.mul_nonneg (by omega) (by omega);have cX:(q:Int)*(k - 1)<=1000*23:=Int.mul_le_mul (by omega) (by omega) (by omega) (by omega);have dC:(w.alloc (.cells #[.int .i64 n,.int .i64 k,.int .i64 D] 23)).cell? ⟨w.heap.size,0,none⟩=some (.int .i64 n):=(Blk.new w _ _).at_ 0 rfl;clear aX aN hfd Z aD aK;by_cases V:D=1
  ·subst V
   have O:(n:Int) % 1=0:=by omega
   by_cases hk2:k % 2=0
   ·have M:(k % 2==0)=true:=by simp[hk2]
    have E:=Kh (show Pl.check n k 1=if 512<(q:Int)*(k - 1)then 7 else 0 by rw[I.1,if_neg (by omega),if_neg (by omega)]);clear I U hk2 O;go_enter func89,ntmps89
    go_wp2;all_goals try(exfalso;omega)
    go_quiet ((go_at_call 140;refine Calls.quiet_of_same (?_:Calls _ _ _ _ (λe w'=>e=.returned (.int .i64 (q:Int))/\w'=_));rw[<-HQ.1];exact Mw n _ (by omega) (by omega)))
    go_wp2;all_goals go_ret
    ·exact⟨A5 (by rw[E.1,if_pos (by assumption)]),Aa (by go_grown) _⟩
    ·exact⟨A5 (by rw[E.1,if_neg (by omega)]),Aa (by go_grown) _⟩
   ·have M:(k % 2==0)=false:=by simp;omega
    have E:=Kh (show Pl.check n k 1=16 by rw[I.1,if_neg (by omega),if_pos (by omega)]);clear I U hk2 O;go_enter func89,ntmps89
    go_wp2;all_goals try(exfalso;omega)
    go_ret;exact⟨A5 E.1.symm,by go_grown⟩
  ·have cG:(D != 1)=true:=by simpa using V
   have J:=Kh (U.1 V);clear U;by_cases O:(n:Int) % D=0
   ·have cA:((n:Int) % D != 0)=false:=by rw[bne_eq_false_iff_eq];exact O
    by_cases hp:0<D
    ·have cB:decide (0<D)=true:=by simp;omega
     by_cases hk2:k % 2=0
     ·have M:(k % 2==0)=true:=by simp[hk2]
      have E:=Kh (show Pl.check n k D=if 512<(q:Int)*(k - 1)then 7 else 0 by rw[I.1,if_neg (by simpa using O),if_neg (by omega)]);clear I hk2 O hp;go_enter func89,ntmps89
      go_wp2_with (go_at_call 139;refine(Eb _ _ (by omega) (by omega)).mono ?_;rw[J.1];rintro e w' ⟨rfl,rfl⟩)
      all_goals try(exfalso;omega)
      go_quiet ((go_at_call 140;refine Calls.quiet_of_same (?_:Calls _ _ _ _ (λe w'=>e=.returned (.int .i64 (q:Int))/\w'=_));rw[<-HQ.1];exact Mw n _ (by omega) (by omega)))
      go_wp2;all_goals go_ret
      ·exact⟨A5 (by rw[E.1,if_pos (by assumption)]),Aa (by go_grown) _⟩
      ·exact⟨A5 (by rw[E.1,if_neg (by omega)]),Aa (by go_grown) _⟩
     ·have M:(k % 2==0)=false:=by simp;omega
      have E:=Kh (show Pl.check n k D=16 by rw[I.1,if_neg (by simpa using O),if_pos (by omega)]);clear I hk2 O hp;go_enter func89,ntmps89
      go_wp2_with (go_at_call 139;refine(Eb _ _ (by omega) (by omega)).mono ?_;rw[J.1];rintro e w' ⟨rfl,rfl⟩)
      all_goals try(exfalso;omega)
      go_ret;exact⟨A5 E.1.symm,by go_grown⟩
    ·have cB:decide (0<D)=false:=by simp;omega
     by_cases hk2:k % 2=0
     ·have M:(k % 2==0)=true:=by simp[hk2]
      have E:=Kh (show Pl.check n k D=16 by rw[I.1,if_neg (by simpa using O),if_pos (by omega)]);clear I hk2 O hp;go_enter func89,ntmps89
      go_wp2_with (go_at_call 139;refine(Eb _ _ (by omega) (by omega)).mono ?_;rw[J.1];rintro e w' ⟨rfl,rfl⟩)
      all_goals try(exfalso;omega)
      go_ret;exact⟨A5 E.1.symm,by go_grown⟩
     ·have M:(k % 2==0)=false:=by simp;omega
      have E:=Kh (show Pl.check n k D=if 512<(q:Int)*(k - 1)then 7 else 0 by rw[I.1,if_neg (by simpa using O),if_neg (by omega)]);clear I hk2 O hp;go_enter func89,ntmps89
      go_wp2_with (go_at_call 139;refine(Eb _ _ (by omega) (by omega)).mono ?_;rw[J.1];rintro e w' ⟨rfl,rfl⟩)
      all_goals try(exfalso;omega)
      go_quiet ((go_at_call 140;refine Calls.quiet_of_same (?_:Calls _ _ _ _ (λe w'=>e=.returned (.int .i64 (q:Int))/\w'=_));rw[<-HQ.1];exact Mw n _ (by omega) (by omega)))
      go_wp2;all_goals go_ret
      ·exact⟨A5 (by rw[E.1,if_pos (by assumption)]),Aa (by go_grown) _⟩
      ·exact⟨A5 (by rw[E.1,if_neg (by omega)]),Aa (by go_grown) _⟩
   ·have cA:((n:Int) % D != 0)=true:=by rw[bne_iff_ne];exact O
    have E:=Kh (show Pl.check n k D=14 by rw[I.1,if_pos O]);clear I O;go_enter func89,ntmps89
    go_wp2_with (go_at_call 139;refine(Eb _ _ (by omega) (by omega)).mono ?_;rw[J.1];rintro e w' ⟨rfl,rfl⟩)
    all_goals try(exfalso;omega)
    go_ret;exact⟨A5 E.1.symm,by go_grown⟩
theorem Lp (N k D:Int) (w:World):
  Calls prog 89 #[Ku N k D] w λE w'=>E=.returned (.int .i64 (Pl.check N k D))/\Below w.heap.size w w':=by
 by_cases h:N<1∨120<N∨k<2∨24<k∨D < -120∨120<D
 ·exact Ix N k D w h
 ·exact Mr N k D w (by omega) (by omega) (by omega) (by omega) (by omega) (by omega)
end Go.Proofs.YtenlbhlllgppmaaGreatDoor
