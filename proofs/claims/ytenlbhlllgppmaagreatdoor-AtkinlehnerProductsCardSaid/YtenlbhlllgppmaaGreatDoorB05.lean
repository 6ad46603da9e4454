/- Contracts of the references' Fundamental, Psi and Check. -/
import Derived.Test.YtenlbhlllgppmaaGreatDoorB04
set_option maxHeartbeats 8000000
namespace Go.Proofs.YtenlbhlllgppmaaGreatDoor
open Go.RowKit Tryz
theorem lF (p b:Nat) (h:p<=b):p*p<=b*b:=Nat.mul_le_mul h h
theorem c_free (n:Nat) (w:World) (hn:n<=1000) (x:Int) (hx:x=n∨x=-(n:Int)):
  Calls prog 182 #[.int .i64 x] w λen w'=>en=.returned (.bool (Pl.free n))/\w'=w:=by
 have Z:-1000<=x/\x<=1000:=by omega
 obtain⟨Z,cB⟩:=Z;have aX:(if x < -x then -x else x)=(n:Int):=by split <;> omega
 go_enter func182,ntmps182
 go_wp2;clear aX hx;go_loop [3] (λx=>∃(p f:Nat),x=.int .i64 p/\1<p/\p<=n+2/\n<p+f/\Pl.freeGo f p n=Pl.free n) (λx=>n+2 - (intOf x).toNat)
 case atStart=>exact⟨2,n+1,rfl,by omega,by omega,by omega,rfl⟩
 case round=>
  obtain⟨p,f,rfl,hp,bY,hf,J⟩:=hrel;obtain⟨O,I⟩:∃O:Nat,O=p*p:=⟨_,rfl⟩
  have bC:(p:Int)*(p:Int)=(O:Int):=by rw[I];exact(Int.natCast_mul _ _).symm
  have bB:O<=2000000:=by rw[I];exact nS (lF p 1002 (by omega)) (by omega)
  have bA:p*2<=O:=by rw[I];exact Nat.mul_le_mul_left _ (by omega)
  by_cases hle:O<=n
  ·obtain⟨g,rfl⟩:∃g,f=g+1:=⟨f - 1,by omega⟩
   rw[Pl.freeGo,<-I,if_pos hle]at J;by_cases hd:n % O=0
   ·rw[if_pos hd]at J
    have h:((n:Int) % (O:Int)==0)=true:=by rw[<-Int.natCast_emod,hd];rfl
    have V:=Kh J;have Y:=Kh I;clear J I hd;go_wp2;go_ret;exact⟨C7 V.1,rfl⟩
   ·rw[if_neg hd]at J
    have h:((n:Int) % (O:Int)==0)=false:=by rw[<-Int.natCast_emod];simp;omega
    have V:=Kh J;have Y:=Kh I;clear J I hd;go_wp2;go_round
    case rel=>exact⟨p+1,g,by go_num,by omega,by omega,by omega,V.1⟩
    case measure=>simp[intOf];omega
  ·have U:Pl.free n=true:=by
    rw[<-J];cases f with
    | zero=>rfl
    | succ f=>rw[Pl.freeGo,<-I,if_neg hle]
   have V:=Kh U;have Y:=Kh I;clear J I U;go_wp2;go_ret;exact⟨C7 V.1.symm,rfl⟩
theorem El (d:Int) (w:World) (hd:-120<=d) (cA:d<=120):
  Calls prog 139 #[.int .i64 d] w λen w'=>en=.returned (.bool (Pl.fundR d))/\w'=w:=by
 by_cases h0:d=0
 ·subst h0
  go_enter func139,ntmps139
  go_wp2;go_ret;exact⟨C7 (by simp[Pl.fundR]),rfl⟩
 by_cases h1:d=1
 ·subst h1
  go_enter func139,ntmps139
  go_wp2;go_ret;exact⟨C7 (by simp[Pl.fundR]),rfl⟩
 have J:Pl.fundR d=((decide (d % 4=1)&&Pl.free d.natAbs)||(decide (d % 4=0)&&decide (2<=(d / 4) % 4)&&Pl.free (d / 4).natAbs)):=by simp[Pl.fundR,h0,h1]
 by_cases h2:d % 4=1
 ·have I:Pl.fundR d=Pl.free d.natAbs:=by rw[J];simp[h2]
  have cB:(d.tmod 4==0)=false:=by simp[Gv];omega
  have O:=Kh I;have aX:(d % 4==1)=true:=by simp[h2]
  clear J I h2;by_cases h3:Pl.free d.natAbs=true
  ·go_enter func139,ntmps139
   have V:=Kh h3;clear h3;go_wp2_with (first |(go_at_call 181;refine(Mi _ _ _ (by omega) (by omega)).mono ?_;rintro e w' ⟨rfl,rfl⟩) |(go_at_call 182;refine(c_free d.natAbs _ (by omega) _ (by omega)).mono ?_;rw[V.1];rintro e w' ⟨rfl,rfl⟩))
   go_ret;exact⟨C7 (by rw[O.1,V.1]),rfl⟩
  ·have Z:Pl.free d.natAbs=false:=by simpa using h3
   go_enter func139,ntmps139
   have V:=Kh Z;clear h3 Z;go_wp2_with (first |(go_at_call 181;refine(Mi _ _ _ (by omega) (by omega)).mono ?_;rintro e w' ⟨rfl,rfl⟩) |(go_at_call 182;refine(c_free d.natAbs _ (by omega) _ (by omega)).mono ?_;rw[V.1];rintro e w' ⟨rfl,rfl⟩))
   go_ret;exact⟨C7 (by rw[O.1,V.1]),rfl⟩
 ·have aX:(d % 4==1)=false:=by simpa using h2
  by_cases h3:d % 4=0
  ·have bA:(d.tmod 4==0)=true:=by simp[Gv,h3]
   have bE:d.tdiv 4=d / 4:=by rw[Int.tdiv_eq_ediv];rw[if_pos (.inr (Int.dvd_of_emod_eq_zero h3))];simp
   have I:Pl.fundR d=(decide (2<=(d / 4) % 4)&&Pl.free (d / 4).natAbs):=by rw[J];simp[h3]
   have O:=Kh I;have hq:-30<=d / 4/\d / 4<=30:=by omega
   obtain⟨bB,bC⟩:=hq;clear J I;generalize d / 4=q at O bE bB bC;by_cases h4:2<=q % 4
   ·have U:decide (2<=q % 4)=true:=by simpa using h4
    by_cases h5:Pl.free q.natAbs=true
    ·go_enter func139,ntmps139
     have Y:=Kh h5;clear h5;go_wp2_with (first |(go_at_call 181;refine(Mi _ _ _ (by omega) (by omega)).mono ?_;rintro e w' ⟨rfl,rfl⟩) |(go_at_call 182;refine(c_free q.natAbs _ (by omega) _ (by omega)).mono ?_;rw[Y.1];rintro e w' ⟨rfl,rfl⟩))
     go_ret;exact⟨C7 (by rw[O.1,Y.1,U];rfl),rfl⟩
    ·have h:Pl.free q.natAbs=false:=by simpa using h5
     go_enter func139,ntmps139
     have Y:=Kh h;clear h5 h;go_wp2_with (first |(go_at_call 181;refine(Mi _ _ _ (by omega) (by omega)).mono ?_;rintro e w' ⟨rfl,rfl⟩) |(go_at_call 182;refine(c_free q.natAbs _ (by omega) _ (by omega)).mono ?_;rw[Y.1];rintro e w' ⟨rfl,rfl⟩))
     go_ret;exact⟨C7 (by rw[O.1,Y.1,U];rfl),rfl⟩
   ·have U:decide (2<=q % 4)=false:=by simpa using h4
    go_enter func139,ntmps139
    go_wp2_with (first |(go_at_call 181;refine(Mi _ _ _ (by omega) (by omega)).mono ?_;rintro e w' ⟨rfl,rfl⟩))
    go_ret;exact⟨C7 (by rw[O.1,U];rfl),rfl⟩
  ·have bA:(d.tmod 4==0)=false:=by simp[Gv];omega
   have I:Pl.fundR d=false:=by rw[J];simp[h2,h3]
   have O:=Kh I;clear J I;go_enter func139,ntmps139
   go_wp2_with (first |(go_at_call 181;refine(Mi _ _ _ (by omega) (by omega)).mono ?_;rintro e w' ⟨rfl,rfl⟩))
   go_ret;exact⟨C7 (by rw[O.1]),rfl⟩
theorem Nw (n:Nat) (w:World) (h0:0<n) (hn:n<=120):
  Calls prog 140 #[.int .i64 n] w λen w'=>en=.returned (.int .i64 (Pl.psi n))/\w'=w:=by
 go_enter func140,ntmps140
 go_wp2;go_loop [3,4] (λo x=>∃k:Nat,k+1<=n/\x=.int .i64 ((k+2:Nat):Int)/\o=.int .i64 (Pl.psiAt n k)) (λ_ x=>n+2 - (intOf x).toNat)
 case atStart=>exact⟨0,by omega,rfl,rfl⟩
 case round=>
  obtain⟨k,hk,rfl,rfl⟩:=hrel;have dY:=Pl.psiAt_small n (by omega) k (by omega);obtain⟨o,ho⟩:∃o,Pl.psiAt n k=o:=⟨_,rfl⟩
  obtain⟨p,hp⟩:∃p,k+2=p:=⟨_,rfl⟩
  rw[ho]at dY ⊢;rw[hp];have hB:2<=p:=by omega
  have hD:p<=n+1:=by omega
  have HO:=Kh ho;have Y:=Kh hp;clear ho hp hk;by_cases hle:p<=n
  ·go_wp2
   obtain⟨wo,rfl⟩:∃wo:World,wo=w:=⟨_,rfl⟩
   go_loop [5,6] (λb x=>∃j:Nat,j+2<=p/\x=.int .i64 ((j+2:Nat):Int)/\b=.bool (Pl.primeAt p j)) (λ_ x=>p - (intOf x).toNat)
   case atStart=>exact⟨0,by omega,rfl,rfl⟩
   case round=>
    obtain⟨j,hj,rfl,rfl⟩:=hrel;by_cases hlt:j+2<p
    ·have U:((p:Int) % ((j+2:Nat):Int) != 0)=(p % (j+2) != 0):=by
      rw[<-Int.natCast_emod];by_cases h:p % (j+2)=0
      ·rw[h];rfl
      ·have h1:(((p % (j+2):Nat):Int) != 0)=true:=by rw[bne_iff_ne];omega
       have h2:(p % (j+2) != 0)=true:=by simpa using h
       rw[h1,h2]
     have bE:Pl.primeAt p (j+1)=(Pl.primeAt p j&&(p % (j+2) != 0)):=rfl;have Z:=Kh bE;clear bE;have HD:=Kh U;clear U;obtain⟨q,hq⟩:∃q,j+2=q:=⟨_,rfl⟩
     rw[hq]at HD Z hlt ⊢;have HQ:=Kh hq;have hE:2<=q:=by omega
     clear hq hj;by_cases hb:Pl.primeAt p j=true
     ·rw[hb]
      have HB:=Kh hb;clear hb;go_wp2;go_round
      case rel=>exact⟨j+1,by have:=HQ.1;omega,by have:=HQ.1;go_num,aL (by rw[Z.1,HB.1,HD.1];rfl)⟩
      case measure=>simp[intOf];omega
     ·have J:Pl.primeAt p j=false:=by simpa using hb
      rw[J];have HB:=Kh J;clear hb J;go_wp2;go_round
      case rel=>exact⟨j+1,by have:=HQ.1;omega,by have:=HQ.1;go_num,aL (by rw[Z.1,HB.1];rfl)⟩
      case measure=>simp[intOf];omega
    ·have cX:j=k:=by have:=Y.1;omega
     subst cX
     have U:((n:Int) % (p:Int)==0)=(n % p==0):=by
      rw[<-Int.natCast_emod];by_cases h:n % p=0
      ·rw[h];rfl
      ·have h1:(((n % p:Nat):Int)==0)=false:=beq_eq_false_iff_ne.2 (by omega)
       have h2:(n % p==0)=false:=by simpa using h
       rw[h1,h2]
     have bY:Pl.psiAt n (j+1)=if Pl.primeAt p j&&(n % p==0)then o / p*(p+1)else o:=by rw[Pl.psiAt,Y.1,HO.1]
     have V:=Pl.psiAt_small n (by omega) (j+1) (by have:=Y.1;omega);have HD:=Kh U;have HS:=Kh bY;clear U bY;by_cases hb:Pl.primeAt p j=true
     ·rw[hb]
      by_cases hd:(n % p==0)=true
      ·have cT:=HD.1.trans hd
       have I:Pl.psiAt n (j+1)=o / p*(p+1):=by rw[HS.1,hb,hd];rfl
       have h6:((o:Int) / (p:Int))*((p:Int)+1)=((o / p*(p+1):Nat):Int):=by simp
       have h7:=Int.ediv_nonneg (show(0:Int)<=o by omega) (show(0:Int)<=p by omega);have h8:=Int.ediv_le_self (p:Int) (show(0:Int)<=o by omega);have h9:0<=((o:Int) / (p:Int))*((p:Int)+1):=by rw[h6];omega
       have gP:((o:Int) / (p:Int))*((p:Int)+1)<=1000:=by rw[h6,<-I];omega
       have H6:=Kh h6;have O:=Kh I;have HB:=Kh hb;clear h6 I hb hd V;go_wp2;go_round
       case rel=>exact⟨j+1,by have:=Y.1;omega,by have:=Y.1;go_num,Jd (by rw[H6.1,O.1])⟩
       case measure=>simp[intOf];omega
      ·have aX:(n % p==0)=false:=by simpa using hd
       have cT:=HD.1.trans aX;have I:Pl.psiAt n (j+1)=o:=by rw[HS.1,hb,aX];rfl
       have O:=Kh I;have HB:=Kh hb;clear I hb hd aX V;go_wp2;go_round
       case rel=>exact⟨j+1,by have:=Y.1;omega,by have:=Y.1;go_num,Jd (by rw[O.1])⟩
       case measure=>simp[intOf];omega
     ·have J:Pl.primeAt p j=false:=by simpa using hb
      rw[J];have I:Pl.psiAt n (j+1)=o:=by rw[HS.1,J];rfl
      have O:=Kh I;clear I hb J V;go_wp2;go_round
      case rel=>exact⟨j+1,by have:=Y.1;omega,by have:=Y.1;go_num,Jd (by rw[O.1])⟩
      case measure=>simp[intOf];omega
  ·have bC:Pl.psi n=o:=by
    rw[<-HO.1,<-Pl.psi_eq n h0 (by omega)];have:k=n - 1:=by have:=Y.1;omega
    rw[this]
   have cC:=Kh bC;clear bC;go_wp2;go_ret;exact⟨A5 (by rw[cC.1]),rfl⟩
theorem Je (N k D:Int) (w:World) (h:N<1∨120<N∨k<2∨24<k∨D < -120∨120<D):
  Calls prog 89 #[Ll N k D] w λI w'=>I=.returned (.int .i64 (Pl.check N k D))/\Below w.heap.size w w':=by
 rw[Fz h];by_cases h1:N<1
 ·go_enter func89,ntmps89
  go_wp2;go_ret;exact⟨rfl,by go_grown⟩
 by_cases h2:120<N
 ·go_enter func89,ntmps89
  go_wp2;go_ret;exact⟨rfl,by go_grown⟩
 by_cases h3:k<2
 ·go_enter func89,ntmps89
  go_wp2;go_ret;exact⟨rfl,by go_grown⟩
 by_cases h4:24<k
 ·go_enter func89,ntmps89
  go_wp2;go_ret;exact⟨rfl,by go_grown⟩
 by_cases h5:D < -120
 ·go_enter func89,ntmps89
  go_wp2;go_ret;exact⟨rfl,by go_grown⟩
 have J:120<D:=by omega
 go_enter func89,ntmps89
 go_wp2;go_ret;exact⟨rfl,by go_grown⟩
theorem Nq (N k D:Int) (w:World) (hN:1<=N) (gA:N<=120) (hk:2<=k) (gP:k<=24) (hD:-120<=D) (bY:D<=120):
  Calls prog 89 #[Ll N k D] w λen w'=>en=.returned (.int .i64 (Pl.check N k D))/\Below w.heap.size w w':=by
 have HF:Pl.check N k D=if Pl.fund D=false then 15 else if N % D≠0 then 14 else if(D<0/\k % 2=0)∨(0<D/\k % 2=1)then 16 else if 512<(Pl.psi N.toNat:Int)*(k - 1)then 7 else 0:=by
  unfold Pl.check;rw[if_neg (by omega)]
 obtain⟨n,rfl⟩:=Int.eq_ofNat_of_zero_le (show 0<=N by omega);have cT:=Pl.psi_small n (by omega) (by omega);rw[Int.toNat_natCast]at HF;obtain⟨q,hq⟩:∃q,Pl.psi n=q:=⟨_,rfl⟩
 rw[hq]at HF cT;have bC:=Kh HF;clear HF;have HQ:=Kh hq;clear hq;have bA:=Pl.fund_eq D hD bY;by_cases hfd:Pl.fund D=false
 ·have HR:Pl.check n k D=15:=by rw[bC.1,if_pos hfd]
  have cC:=Kh HR;rw[hfd,Bool.or_eq_false_iff]at bA;obtain⟨Z,bB⟩:=bA;have Z:(D != 1)=true:=by simpa using Z
  have Y:=Kh bB;clear HR bC hfd bB;go_enter func89,ntmps89
  go_wp2_with (go_at_call 139;refine(El _ _ hD bY).mono ?_;rw[Y.1];rintro e w' ⟨rfl,rfl⟩)
  all_goals go_ret
  all_goals exact⟨A5 cC.1.symm,by go_grown⟩
 ·have aX:Pl.fund D=true:=by simpa using hfd
  have eP:D≠0:=(fund_yes aX).1;have bE:Pl.check n k D=if(n:Int) % D≠0 then 14 else if(D<0/\k % 2=0)∨(0<D/\k % 2=1)then 16 else if 512<(q:Int)*(k - 1)then 7 else 0:=by rw[bC.1,if_neg hfd]
  have J:=Kh bE
  have bB:D≠1->Pl.fundR D=true:=by
   intro h;rw[aX,Bool.or_eq_true]at bA;rcases bA with h1|h1
   ·exact absurd (of_decide_eq_true h1) h
   ·exact h1
  have Y:=Kh bB;have gF:0<=(q:Int)*(k - 1):=Int.mul_nonneg (by omega) (by omega);have gL:(q:Int)*(k - 1)<=1000*23:=Int.mul_le_mul (by omega) (by omega) (by omega) (by omega);have gN:(w.alloc (.cells #[.int .i64 n,.int .i64 k,.int .i64 D] 23)).cell? ⟨w.heap.size,0,none⟩=some (.int .i64 n):=(Blk.new w _ _).at_ 0 rfl;clear bE bC hfd aX bA bB;by_cases Z:D=1
  ·subst Z
   have V:(n:Int) % 1=0:=by omega
   by_cases hk2:k % 2=0
   ·have U:(k % 2==0)=true:=by simp[hk2]
    have I:=Kh (show Pl.check n k 1=if 512<(q:Int)*(k - 1)then 7 else 0 by rw[J.1,if_neg (by omega),if_neg (by omega)]);clear J Y hk2 V;go_enter func89,ntmps89
    go_wp2;all_goals try(exfalso;omega)
    go_quiet ((go_at_call 140;refine Calls.quiet_of_same (?_:Calls _ _ _ _ (λe w'=>e=.returned (.int .i64 (q:Int))/\w'=_));rw[<-HQ.1];exact Nw n _ (by omega) (by omega)))
    go_wp2;all_goals go_ret
    ·exact⟨A5 (by rw[I.1,if_pos (by assumption)]),Aa (by go_grown) _⟩
    ·exact⟨A5 (by rw[I.1,if_neg (by omega)]),Aa (by go_grown) _⟩
   ·have U:(k % 2==0)=false:=by simp;omega
    have I:=Kh (show Pl.check n k 1=16 by rw[J.1,if_neg (by omega),if_pos (by omega)]);clear J Y hk2 V;go_enter func89,ntmps89
    go_wp2;all_goals try(exfalso;omega)
    go_ret;exact⟨A5 I.1.symm,by go_grown⟩
  ·have dE:(D != 1)=true:=by simpa using Z
   have O:=Kh (Y.1 Z);clear Y;by_cases V:(n:Int) % D=0
   ·have cF:((n:Int) % D != 0)=false:=by rw[bne_eq_false_iff_eq];exact V
    by_cases hp:0<D
    ·have cG:decide (0<D)=true:=by simp;omega
     by_cases hk2:k % 2=0
     ·have U:(k % 2==0)=true:=by simp[hk2]
      have I:=Kh (show Pl.check n k D=if 512<(q:Int)*(k - 1)then 7 else 0 by rw[J.1,if_neg (by simpa using V),if_neg (by omega)]);clear J hk2 V hp;go_enter func89,ntmps89
      go_wp2_with (go_at_call 139;refine(El _ _ (by omega) (by omega)).mono ?_;rw[O.1];rintro e w' ⟨rfl,rfl⟩)
      all_goals try(exfalso;omega)
      go_quiet ((go_at_call 140;refine Calls.quiet_of_same (?_:Calls _ _ _ _ (λe w'=>e=.returned (.int .i64 (q:Int))/\w'=_));rw[<-HQ.1];exact Nw n _ (by omega) (by omega)))
      go_wp2;all_goals go_ret
      ·exact⟨A5 (by rw[I.1,if_pos (by assumption)]),Aa (by go_grown) _⟩
      ·exact⟨A5 (by rw[I.1,if_neg (by omega)]),Aa (by go_grown) _⟩
     ·have U:(k % 2==0)=false:=by simp;omega
      have I:=Kh (show Pl.check n k D=16 by rw[J.1,if_neg (by simpa using V),if_pos (by omega)]);clear J hk2 V hp;go_enter func89,ntmps89
      go_wp2_with (go_at_call 139;refine(El _ _ (by omega) (by omega)).mono ?_;rw[O.1];rintro e w' ⟨rfl,rfl⟩)
      all_goals try(exfalso;omega)
      go_ret;exact⟨A5 I.1.symm,by go_grown⟩
    ·have cG:decide (0<D)=false:=by simp;omega
     by_cases hk2:k % 2=0
     ·have U:(k % 2==0)=true:=by simp[hk2]
      have I:=Kh (show Pl.check n k D=16 by rw[J.1,if_neg (by simpa using V),if_pos (by omega)]);clear J hk2 V hp;go_enter func89,ntmps89
      go_wp2_with (go_at_call 139;refine(El _ _ (by omega) (by omega)).mono ?_;rw[O.1];rintro e w' ⟨rfl,rfl⟩)
      all_goals try(exfalso;omega)
      go_ret;exact⟨A5 I.1.symm,by go_grown⟩
     ·have U:(k % 2==0)=false:=by simp;omega
      have I:=Kh (show Pl.check n k D=if 512<(q:Int)*(k - 1)then 7 else 0 by rw[J.1,if_neg (by simpa using V),if_neg (by omega)]);clear J hk2 V hp;go_enter func89,ntmps89
      go_wp2_with (go_at_call 139;refine(El _ _ (by omega) (by omega)).mono ?_;rw[O.1];rintro e w' ⟨rfl,rfl⟩)
      all_goals try(exfalso;omega)
      go_quiet ((go_at_call 140;refine Calls.quiet_of_same (?_:Calls _ _ _ _ (λe w'=>e=.returned (.int .i64 (q:Int))/\w'=_));rw[<-HQ.1];exact Nw n _ (by omega) (by omega)))
      go_wp2;all_goals go_ret
      ·exact⟨A5 (by rw[I.1,if_pos (by assumption)]),Aa (by go_grown) _⟩
      ·exact⟨A5 (by rw[I.1,if_neg (by omega)]),Aa (by go_grown) _⟩
   ·have cF:((n:Int) % D != 0)=true:=by rw[bne_iff_ne];exact V
    have I:=Kh (show Pl.check n k D=14 by rw[J.1,if_pos V]);clear J V;go_enter func89,ntmps89
    go_wp2_with (go_at_call 139;refine(El _ _ (by omega) (by omega)).mono ?_;rw[O.1];rintro e w' ⟨rfl,rfl⟩)
    all_goals try(exfalso;omega)
    go_ret;exact⟨A5 I.1.symm,by go_grown⟩
theorem Mh (N k D:Int) (w:World):
  Calls prog 89 #[Ll N k D] w λI w'=>I=.returned (.int .i64 (Pl.check N k D))/\Below w.heap.size w w':=by
 by_cases h:N<1∨120<N∨k<2∨24<k∨D < -120∨120<D
 ·exact Je N k D w h
 ·exact Nq N k D w (by omega) (by omega) (by omega) (by omega) (by omega) (by omega)
end Go.Proofs.YtenlbhlllgppmaaGreatDoor
