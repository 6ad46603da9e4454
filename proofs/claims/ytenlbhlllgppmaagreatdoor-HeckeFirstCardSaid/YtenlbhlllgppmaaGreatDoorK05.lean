/- Contracts of the references' Fundamental, Psi and Check. -/
import Derived.Test.YtenlbhlllgppmaaGreatDoorK04
set_option maxHeartbeats 8000000
namespace Go.Proofs.YtenlbhlllgppmaaGreatDoor
open Go.RowKit
theorem sq_le (p b:Nat) (h:p≤b):p*p≤b*b:=Nat.mul_le_mul h h
theorem c_free (n:Nat) (w:World) (hn:n≤1000) (x:Int) (hx:x=n∨x=-(n:Int)):
  Calls Tryz.prog 182 #[.int .i64 x] w fun en w'=>en=.returned (.bool (Pl.free n))∧w'=w:=by
 have hx1:-1000≤x∧x≤1000:=by omega
 obtain⟨hx1,hx2⟩:=hx1
 have hmx:(if x < -x then -x else x)=(n:Int):=by split <;> omega
 go_enter Tryz.func182,Tryz.ntmps182
 go_wp2
 clear hmx hx
 go_loop [3] (fun x=>∃ (p f:Nat),x=.int .i64 p∧1<p∧p≤n+2∧n<p+f∧Pl.freeGo f p n=Pl.free n) (fun x=>n+2 - (intOf x).toNat)
 case atStart=>exact⟨2,n+1,rfl,by omega,by omega,by omega,rfl⟩
 case round=>
  obtain⟨p,f,rfl,hp,hpn,hf,hfr⟩:=hrel
  obtain⟨pp,hpp⟩:∃ pp:Nat,pp=p*p:=⟨_,rfl⟩
  have hppi:(p:Int)*(p:Int)=(pp:Int):=by rw[hpp];exact(Int.natCast_mul _ _).symm
  have hppb:pp≤2000000:=by rw[hpp];exact Nat.le_trans (sq_le p 1002 (by omega)) (by omega)
  have hple:p*2≤pp:=by rw[hpp];exact Nat.mul_le_mul_left _ (by omega)
  by_cases hle:pp≤n
  ·obtain⟨g,rfl⟩:∃ g,f=g+1:=⟨f - 1,by omega⟩
   rw[Pl.freeGo,← hpp,if_pos hle]at hfr
   by_cases hd:n % pp=0
   ·rw[if_pos hd]at hfr
    have hdi:((n:Int) % (pp:Int)==0)=true:=by rw[← Int.natCast_emod,hd];rfl
    have HF:=Kh hfr
    have HPP:=Kh hpp
    clear hfr hpp hd
    go_wp2
    go_ret
    exact⟨ret_b HF.out,rfl⟩
   ·rw[if_neg hd]at hfr
    have hdi:((n:Int) % (pp:Int)==0)=false:=by rw[← Int.natCast_emod];simp;omega
    have HF:=Kh hfr
    have HPP:=Kh hpp
    clear hfr hpp hd
    go_wp2
    go_round
    case rel=>exact⟨p+1,g,by go_num,by omega,by omega,by omega,HF.out⟩
    case measure=>simp[intOf];omega
  ·have hfr':Pl.free n=true:=by
    rw[← hfr]
    cases f with
    | zero=>rfl
    | succ f=>rw[Pl.freeGo,← hpp,if_neg hle]
   have HF:=Kh hfr'
   have HPP:=Kh hpp
   clear hfr hpp hfr'
   go_wp2
   go_ret
   exact⟨ret_b HF.out.symm,rfl⟩
theorem c_fund28 (d:Int) (w:World) (hd:-120≤d) (hd':d≤120):
  Calls Tryz.prog 139 #[.int .i64 d] w fun en w'=>en=.returned (.bool (Pl.fundR d))∧w'=w:=by
 by_cases h0:d=0
 ·subst h0
  go_enter Tryz.func139,Tryz.ntmps139
  go_wp2
  go_ret
  exact⟨ret_b (by simp[Pl.fundR]),rfl⟩
 by_cases h1:d=1
 ·subst h1
  go_enter Tryz.func139,Tryz.ntmps139
  go_wp2
  go_ret
  exact⟨ret_b (by simp[Pl.fundR]),rfl⟩
 have hf1:Pl.fundR d=((decide (d % 4=1)&&Pl.free d.natAbs)||(decide (d % 4=0)&&decide (2≤(d / 4) % 4)&&Pl.free (d / 4).natAbs)):=by simp[Pl.fundR,h0,h1]
 by_cases h2:d % 4=1
 ·have hf2:Pl.fundR d=Pl.free d.natAbs:=by rw[hf1];simp[h2]
  have hne:(d.tmod 4==0)=false:=by simp[tmod_zero];omega
  have HF:=Kh hf2
  have h2b:(d % 4==1)=true:=by simp[h2]
  clear hf1 hf2 h2
  by_cases h3:Pl.free d.natAbs=true
  ·go_enter Tryz.func139,Tryz.ntmps139
   have H3:=Kh h3
   clear h3
   go_wp2_with (first |(go_at_call 181;refine(c_Mod _ _ _ (by omega) (by omega)).mono ?_;rintro e w' ⟨rfl,rfl⟩) |(go_at_call 182;refine(c_free d.natAbs _ (by omega) _ (by omega)).mono ?_;rw[H3.out];rintro e w' ⟨rfl,rfl⟩))
   go_ret
   exact⟨ret_b (by rw[HF.out,H3.out]),rfl⟩
  ·have h3':Pl.free d.natAbs=false:=by simpa using h3
   go_enter Tryz.func139,Tryz.ntmps139
   have H3:=Kh h3'
   clear h3 h3'
   go_wp2_with (first |(go_at_call 181;refine(c_Mod _ _ _ (by omega) (by omega)).mono ?_;rintro e w' ⟨rfl,rfl⟩) |(go_at_call 182;refine(c_free d.natAbs _ (by omega) _ (by omega)).mono ?_;rw[H3.out];rintro e w' ⟨rfl,rfl⟩))
   go_ret
   exact⟨ret_b (by rw[HF.out,H3.out]),rfl⟩
 ·have h2b:(d % 4==1)=false:=by simpa using h2
  by_cases h3:d % 4=0
  ·have h3b:(d.tmod 4==0)=true:=by simp[tmod_zero,h3]
   have htd:d.tdiv 4=d / 4:=by rw[Int.tdiv_eq_ediv];rw[if_pos (.inr (Int.dvd_of_emod_eq_zero h3))];simp
   have hf2:Pl.fundR d=(decide (2≤(d / 4) % 4)&&Pl.free (d / 4).natAbs):=by rw[hf1];simp[h3]
   have HF:=Kh hf2
   have hq:-30≤d / 4∧d / 4≤30:=by omega
   obtain⟨hq1,hq2⟩:=hq
   clear hf1 hf2
   generalize d / 4=q at HF htd hq1 hq2
   by_cases h4:2≤q % 4
   ·have h4b:decide (2≤q % 4)=true:=by simpa using h4
    by_cases h5:Pl.free q.natAbs=true
    ·go_enter Tryz.func139,Tryz.ntmps139
     have H5:=Kh h5
     clear h5
     go_wp2_with (first |(go_at_call 181;refine(c_Mod _ _ _ (by omega) (by omega)).mono ?_;rintro e w' ⟨rfl,rfl⟩) |(go_at_call 182;refine(c_free q.natAbs _ (by omega) _ (by omega)).mono ?_;rw[H5.out];rintro e w' ⟨rfl,rfl⟩))
     go_ret
     exact⟨ret_b (by rw[HF.out,H5.out,h4b];rfl),rfl⟩
    ·have h5':Pl.free q.natAbs=false:=by simpa using h5
     go_enter Tryz.func139,Tryz.ntmps139
     have H5:=Kh h5'
     clear h5 h5'
     go_wp2_with (first |(go_at_call 181;refine(c_Mod _ _ _ (by omega) (by omega)).mono ?_;rintro e w' ⟨rfl,rfl⟩) |(go_at_call 182;refine(c_free q.natAbs _ (by omega) _ (by omega)).mono ?_;rw[H5.out];rintro e w' ⟨rfl,rfl⟩))
     go_ret
     exact⟨ret_b (by rw[HF.out,H5.out,h4b];rfl),rfl⟩
   ·have h4b:decide (2≤q % 4)=false:=by simpa using h4
    go_enter Tryz.func139,Tryz.ntmps139
    go_wp2_with (first |(go_at_call 181;refine(c_Mod _ _ _ (by omega) (by omega)).mono ?_;rintro e w' ⟨rfl,rfl⟩))
    go_ret
    exact⟨ret_b (by rw[HF.out,h4b];rfl),rfl⟩
  ·have h3b:(d.tmod 4==0)=false:=by simp[tmod_zero];omega
   have hf2:Pl.fundR d=false:=by rw[hf1];simp[h2,h3]
   have HF:=Kh hf2
   clear hf1 hf2
   go_enter Tryz.func139,Tryz.ntmps139
   go_wp2_with (first |(go_at_call 181;refine(c_Mod _ _ _ (by omega) (by omega)).mono ?_;rintro e w' ⟨rfl,rfl⟩))
   go_ret
   exact⟨ret_b (by rw[HF.out]),rfl⟩
theorem c_psi21 (n:Nat) (w:World) (h0:0<n) (hn:n≤120):
  Calls Tryz.prog 140 #[.int .i64 n] w fun en w'=>en=.returned (.int .i64 (Pl.psi n))∧w'=w:=by
 go_enter Tryz.func140,Tryz.ntmps140
 go_wp2
 go_loop [3,4] (fun o x=>∃ k:Nat,k+1≤n∧x=.int .i64 ((k+2:Nat):Int)∧o=.int .i64 (Pl.psiAt n k)) (fun _ x=>n+2 - (intOf x).toNat)
 case atStart=>exact⟨0,by omega,rfl,rfl⟩
 case round=>
  obtain⟨k,hk,rfl,rfl⟩:=hrel
  have hps:=Pl.psiAt_small n (by omega) k (by omega)
  obtain⟨o,ho⟩:∃ o,Pl.psiAt n k=o:=⟨_,rfl⟩
  obtain⟨p,hp⟩:∃ p,k+2=p:=⟨_,rfl⟩
  rw[ho]at hps ⊢
  rw[hp]
  have hp2:2≤p:=by omega
  have hp3:p≤n+1:=by omega
  have HO:=Kh ho
  have HP:=Kh hp
  clear ho hp hk
  by_cases hle:p≤n
  ·go_wp2
   obtain⟨wo,rfl⟩:∃ wo:World,wo=w:=⟨_,rfl⟩
   go_loop [5,6] (fun b x=>∃ j:Nat,j+2≤p∧x=.int .i64 ((j+2:Nat):Int)∧b=.bool (Pl.primeAt p j)) (fun _ x=>p - (intOf x).toNat)
   case atStart=>exact⟨0,by omega,rfl,rfl⟩
   case round=>
    obtain⟨j,hj,rfl,rfl⟩:=hrel
    by_cases hlt:j+2<p
    ·have hdi:((p:Int) % ((j+2:Nat):Int) != 0)=(p % (j+2) != 0):=by
      rw[← Int.natCast_emod]
      by_cases h:p % (j+2)=0
      ·rw[h];rfl
      ·have h1:(((p % (j+2):Nat):Int) != 0)=true:=by rw[bne_iff_ne];omega
       have h2:(p % (j+2) != 0)=true:=by simpa using h
       rw[h1,h2]
     have hpr:Pl.primeAt p (j+1)=(Pl.primeAt p j&&(p % (j+2) != 0)):=rfl
     have HPR:=Kh hpr
     clear hpr
     have HD:=Kh hdi
     clear hdi
     obtain⟨q,hq⟩:∃ q,j+2=q:=⟨_,rfl⟩
     rw[hq]at HD HPR hlt ⊢
     have HQ:=Kh hq
     have hq2:2≤q:=by omega
     clear hq hj
     by_cases hb:Pl.primeAt p j=true
     ·rw[hb]
      have HB:=Kh hb
      clear hb
      go_wp2
      go_round
      case rel=>exact⟨j+1,by have:=HQ.out;omega,by have:=HQ.out;go_num,val_b (by rw[HPR.out,HB.out,HD.out];rfl)⟩
      case measure=>simp[intOf];omega
     ·have hb':Pl.primeAt p j=false:=by simpa using hb
      rw[hb']
      have HB:=Kh hb'
      clear hb hb'
      go_wp2
      go_round
      case rel=>exact⟨j+1,by have:=HQ.out;omega,by have:=HQ.out;go_num,val_b (by rw[HPR.out,HB.out];rfl)⟩
      case measure=>simp[intOf];omega
    ·have hje:j=k:=by have:=HP.out;omega
     subst hje
     have hdi:((n:Int) % (p:Int)==0)=(n % p==0):=by
      rw[← Int.natCast_emod]
      by_cases h:n % p=0
      ·rw[h];rfl
      ·have h1:(((n % p:Nat):Int)==0)=false:=beq_eq_false_iff_ne.2 (by omega)
       have h2:(n % p==0)=false:=by simpa using h
       rw[h1,h2]
     have hst:Pl.psiAt n (j+1)=if Pl.primeAt p j&&(n % p==0)then o / p*(p+1)else o:=by rw[Pl.psiAt,HP.out,HO.out]
     have hps2:=Pl.psiAt_small n (by omega) (j+1) (by have:=HP.out;omega)
     have HD:=Kh hdi
     have HS:=Kh hst
     clear hdi hst
     by_cases hb:Pl.primeAt p j=true
     ·rw[hb]
      by_cases hd:(n % p==0)=true
      ·have hd':=HD.out.trans hd
       have hst2:Pl.psiAt n (j+1)=o / p*(p+1):=by rw[HS.out,hb,hd];rfl
       have h6:((o:Int) / (p:Int))*((p:Int)+1)=((o / p*(p+1):Nat):Int):=by simp
       have h7:=Int.ediv_nonneg (show(0:Int)≤o by omega) (show(0:Int)≤p by omega)
       have h8:=Int.ediv_le_self (p:Int) (show(0:Int)≤o by omega)
       have h9:0≤((o:Int) / (p:Int))*((p:Int)+1):=by rw[h6];omega
       have h10:((o:Int) / (p:Int))*((p:Int)+1)≤1000:=by rw[h6,← hst2];omega
       have H6:=Kh h6
       have HS2:=Kh hst2
       have HB:=Kh hb
       clear h6 hst2 hb hd hps2
       go_wp2
       go_round
       case rel=>exact⟨j+1,by have:=HP.out;omega,by have:=HP.out;go_num,val_i (by rw[H6.out,HS2.out])⟩
       case measure=>simp[intOf];omega
      ·have hd1:(n % p==0)=false:=by simpa using hd
       have hd':=HD.out.trans hd1
       have hst2:Pl.psiAt n (j+1)=o:=by rw[HS.out,hb,hd1];rfl
       have HS2:=Kh hst2
       have HB:=Kh hb
       clear hst2 hb hd hd1 hps2
       go_wp2
       go_round
       case rel=>exact⟨j+1,by have:=HP.out;omega,by have:=HP.out;go_num,val_i (by rw[HS2.out])⟩
       case measure=>simp[intOf];omega
     ·have hb':Pl.primeAt p j=false:=by simpa using hb
      rw[hb']
      have hst2:Pl.psiAt n (j+1)=o:=by rw[HS.out,hb'];rfl
      have HS2:=Kh hst2
      clear hst2 hb hb' hps2
      go_wp2
      go_round
      case rel=>exact⟨j+1,by have:=HP.out;omega,by have:=HP.out;go_num,val_i (by rw[HS2.out])⟩
      case measure=>simp[intOf];omega
  ·have hpe:Pl.psi n=o:=by
    rw[← HO.out,← Pl.psi_eq n h0 (by omega)]
    have:k=n - 1:=by have:=HP.out;omega
    rw[this]
   have HPE:=Kh hpe
   clear hpe
   go_wp2
   go_ret
   exact⟨ret_i (by rw[HPE.out]),rfl⟩
theorem c_Check31_range (N k D:Int) (w:World) (h:N<1∨120<N∨k<2∨24<k∨D < -120∨120<D):
  Calls Tryz.prog 89 #[spec N k D] w fun en w'=>en=.returned (.int .i64 (Pl.check N k D))∧Below w.heap.size w w':=by
 rw[check_range h]
 by_cases h1:N<1
 ·go_enter Tryz.func89,Tryz.ntmps89
  go_wp2
  go_ret
  exact⟨rfl,by go_grown⟩
 by_cases h2:120<N
 ·go_enter Tryz.func89,Tryz.ntmps89
  go_wp2
  go_ret
  exact⟨rfl,by go_grown⟩
 by_cases h3:k<2
 ·go_enter Tryz.func89,Tryz.ntmps89
  go_wp2
  go_ret
  exact⟨rfl,by go_grown⟩
 by_cases h4:24<k
 ·go_enter Tryz.func89,Tryz.ntmps89
  go_wp2
  go_ret
  exact⟨rfl,by go_grown⟩
 by_cases h5:D < -120
 ·go_enter Tryz.func89,Tryz.ntmps89
  go_wp2
  go_ret
  exact⟨rfl,by go_grown⟩
 have h6:120<D:=by omega
 go_enter Tryz.func89,Tryz.ntmps89
 go_wp2
 go_ret
 exact⟨rfl,by go_grown⟩
theorem c_Check31_in (N k D:Int) (w:World) (hN:1≤N) (hN':N≤120) (hk:2≤k) (hk':k≤24) (hD:-120≤D) (hD':D≤120):
  Calls Tryz.prog 89 #[spec N k D] w fun en w'=>en=.returned (.int .i64 (Pl.check N k D))∧Below w.heap.size w w':=by
 have HF:Pl.check N k D=if Pl.fund D=false then 15 else if N % D≠0 then 14 else if(D<0∧k % 2=0)∨(0<D∧k % 2=1)then 16 else if 512<(Pl.psi N.toNat:Int)*(k - 1)then 7 else 0:=by
  unfold Pl.check;rw[if_neg (by omega)]
 obtain⟨n,rfl⟩:=Int.eq_ofNat_of_zero_le (show 0≤N by omega)
 have hps:=Pl.psi_small n (by omega) (by omega)
 rw[Int.toNat_natCast]at HF
 obtain⟨q,hq⟩:∃ q,Pl.psi n=q:=⟨_,rfl⟩
 rw[hq]at HF hps
 have HF':=Kh HF
 clear HF
 have HQ:=Kh hq
 clear hq
 have hfe:=Pl.fund_eq D hD hD'
 by_cases hfd:Pl.fund D=false
 ·have HR:Pl.check n k D=15:=by rw[HF'.out,if_pos hfd]
  have HR':=Kh HR
  rw[hfd,Bool.or_eq_false_iff]at hfe
  obtain⟨hd1,hfr⟩:=hfe
  have hd1:(D != 1)=true:=by simpa using hd1
  have HFR:=Kh hfr
  clear HR HF' hfd hfr
  go_enter Tryz.func89,Tryz.ntmps89
  go_wp2_with (go_at_call 139;refine(c_fund28 _ _ hD hD').mono ?_;rw[HFR.out];rintro e w' ⟨rfl,rfl⟩)
  all_goals go_ret
  all_goals exact⟨ret_i HR'.out.symm,by go_grown⟩
 ·have hfd':Pl.fund D=true:=by simpa using hfd
  have hD0:D≠0:=(fund_yes hfd').1
  have HF2:Pl.check n k D=if(n:Int) % D≠0 then 14 else if(D<0∧k % 2=0)∨(0<D∧k % 2=1)then 16 else if 512<(q:Int)*(k - 1)then 7 else 0:=by rw[HF'.out,if_neg hfd]
  have HF3:=Kh HF2
  have hfr:D≠1→Pl.fundR D=true:=by
   intro h
   rw[hfd',Bool.or_eq_true]at hfe
   rcases hfe with h1|h1
   ·exact absurd (of_decide_eq_true h1) h
   ·exact h1
  have HFR:=Kh hfr
  have hb0:0≤(q:Int)*(k - 1):=Int.mul_nonneg (by omega) (by omega)
  have hb1:(q:Int)*(k - 1)≤1000*23:=Int.mul_le_mul (by omega) (by omega) (by omega) (by omega)
  have hc0:(w.alloc (.cells #[.int .i64 n,.int .i64 k,.int .i64 D] 23)).cell? ⟨w.heap.size,0,none⟩=some (.int .i64 n):=(Blk.new w _ _).at_ 0 rfl
  clear HF2 HF' hfd hfd' hfe hfr
  by_cases hd1:D=1
  ·subst hd1
   have hm:(n:Int) % 1=0:=by omega
   by_cases hk2:k % 2=0
   ·have hk2b:(k % 2==0)=true:=by simp[hk2]
    have HF4:=Kh (show Pl.check n k 1=if 512<(q:Int)*(k - 1)then 7 else 0 by rw[HF3.out,if_neg (by omega),if_neg (by omega)])
    clear HF3 HFR hk2 hm
    go_enter Tryz.func89,Tryz.ntmps89
    go_wp2
    all_goals try(exfalso;omega)
    go_quiet ((go_at_call 140;refine Calls.quiet_of_same (?_:Calls _ _ _ _ (fun e w'=>e=.returned (.int .i64 (q:Int))∧w'=_));rw[← HQ.out];exact c_psi21 n _ (by omega) (by omega)))
    go_wp2
    all_goals go_ret
    ·exact⟨ret_i (by rw[HF4.out,if_pos (by assumption)]),below_drewN' (by go_grown) _⟩
    ·exact⟨ret_i (by rw[HF4.out,if_neg (by omega)]),below_drewN' (by go_grown) _⟩
   ·have hk2b:(k % 2==0)=false:=by simp;omega
    have HF4:=Kh (show Pl.check n k 1=16 by rw[HF3.out,if_neg (by omega),if_pos (by omega)])
    clear HF3 HFR hk2 hm
    go_enter Tryz.func89,Tryz.ntmps89
    go_wp2
    all_goals try(exfalso;omega)
    go_ret
    exact⟨ret_i HF4.out.symm,by go_grown⟩
  ·have hd1b:(D != 1)=true:=by simpa using hd1
   have HFR':=Kh (HFR.out hd1)
   clear HFR
   by_cases hm:(n:Int) % D=0
   ·have hmb:((n:Int) % D != 0)=false:=by rw[bne_eq_false_iff_eq];exact hm
    by_cases hp:0<D
    ·have hpb:decide (0<D)=true:=by simp;omega
     by_cases hk2:k % 2=0
     ·have hk2b:(k % 2==0)=true:=by simp[hk2]
      have HF4:=Kh (show Pl.check n k D=if 512<(q:Int)*(k - 1)then 7 else 0 by rw[HF3.out,if_neg (by simpa using hm),if_neg (by omega)])
      clear HF3 hk2 hm hp
      go_enter Tryz.func89,Tryz.ntmps89
      go_wp2_with (go_at_call 139;refine(c_fund28 _ _ (by omega) (by omega)).mono ?_;rw[HFR'.out];rintro e w' ⟨rfl,rfl⟩)
      all_goals try(exfalso;omega)
      go_quiet ((go_at_call 140;refine Calls.quiet_of_same (?_:Calls _ _ _ _ (fun e w'=>e=.returned (.int .i64 (q:Int))∧w'=_));rw[← HQ.out];exact c_psi21 n _ (by omega) (by omega)))
      go_wp2
      all_goals go_ret
      ·exact⟨ret_i (by rw[HF4.out,if_pos (by assumption)]),below_drewN' (by go_grown) _⟩
      ·exact⟨ret_i (by rw[HF4.out,if_neg (by omega)]),below_drewN' (by go_grown) _⟩
     ·have hk2b:(k % 2==0)=false:=by simp;omega
      have HF4:=Kh (show Pl.check n k D=16 by rw[HF3.out,if_neg (by simpa using hm),if_pos (by omega)])
      clear HF3 hk2 hm hp
      go_enter Tryz.func89,Tryz.ntmps89
      go_wp2_with (go_at_call 139;refine(c_fund28 _ _ (by omega) (by omega)).mono ?_;rw[HFR'.out];rintro e w' ⟨rfl,rfl⟩)
      all_goals try(exfalso;omega)
      go_ret
      exact⟨ret_i HF4.out.symm,by go_grown⟩
    ·have hpb:decide (0<D)=false:=by simp;omega
     by_cases hk2:k % 2=0
     ·have hk2b:(k % 2==0)=true:=by simp[hk2]
      have HF4:=Kh (show Pl.check n k D=16 by rw[HF3.out,if_neg (by simpa using hm),if_pos (by omega)])
      clear HF3 hk2 hm hp
      go_enter Tryz.func89,Tryz.ntmps89
      go_wp2_with (go_at_call 139;refine(c_fund28 _ _ (by omega) (by omega)).mono ?_;rw[HFR'.out];rintro e w' ⟨rfl,rfl⟩)
      all_goals try(exfalso;omega)
      go_ret
      exact⟨ret_i HF4.out.symm,by go_grown⟩
     ·have hk2b:(k % 2==0)=false:=by simp;omega
      have HF4:=Kh (show Pl.check n k D=if 512<(q:Int)*(k - 1)then 7 else 0 by rw[HF3.out,if_neg (by simpa using hm),if_neg (by omega)])
      clear HF3 hk2 hm hp
      go_enter Tryz.func89,Tryz.ntmps89
      go_wp2_with (go_at_call 139;refine(c_fund28 _ _ (by omega) (by omega)).mono ?_;rw[HFR'.out];rintro e w' ⟨rfl,rfl⟩)
      all_goals try(exfalso;omega)
      go_quiet ((go_at_call 140;refine Calls.quiet_of_same (?_:Calls _ _ _ _ (fun e w'=>e=.returned (.int .i64 (q:Int))∧w'=_));rw[← HQ.out];exact c_psi21 n _ (by omega) (by omega)))
      go_wp2
      all_goals go_ret
      ·exact⟨ret_i (by rw[HF4.out,if_pos (by assumption)]),below_drewN' (by go_grown) _⟩
      ·exact⟨ret_i (by rw[HF4.out,if_neg (by omega)]),below_drewN' (by go_grown) _⟩
   ·have hmb:((n:Int) % D != 0)=true:=by rw[bne_iff_ne];exact hm
    have HF4:=Kh (show Pl.check n k D=14 by rw[HF3.out,if_pos hm])
    clear HF3 hm
    go_enter Tryz.func89,Tryz.ntmps89
    go_wp2_with (go_at_call 139;refine(c_fund28 _ _ (by omega) (by omega)).mono ?_;rw[HFR'.out];rintro e w' ⟨rfl,rfl⟩)
    all_goals try(exfalso;omega)
    go_ret
    exact⟨ret_i HF4.out.symm,by go_grown⟩
theorem c_Check31 (N k D:Int) (w:World):
  Calls Tryz.prog 89 #[spec N k D] w fun en w'=>en=.returned (.int .i64 (Pl.check N k D))∧Below w.heap.size w w':=by
 by_cases h:N<1∨120<N∨k<2∨24<k∨D < -120∨120<D
 ·exact c_Check31_range N k D w h
 ·exact c_Check31_in N k D w (by omega) (by omega) (by omega) (by omega) (by omega) (by omega)
end Go.Proofs.YtenlbhlllgppmaaGreatDoor
