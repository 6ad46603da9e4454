/- Contract of halfplaneref21.List: the list of P1(Z/n), as the reference counts it. -/
import Derived.Test.YtenlbhlllgppmaaGreatDoorK27
import Derived.Test.YtenlbhlllgppmaaGreatDoorK02
import Derived.Test.YtenlbhlllgppmaaGreatDoorK05
import Derived.Test.YtenlbhlllgppmaaGreatDoorK13
import Derived.Test.YtenlbhlllgppmaaGreatDoorK26
import Derived.Test.YtenlbhlllgppmaaGreatDoorK32
import Derived.Test.YtenlbhlllgppmaaGreatDoorK18
import Derived.Test.YtenlbhlllgppmaaGreatDoorK22
import Derived.Test.YtenlbhlllgppmaaGreatDoorK15
set_option maxRecDepth 100000
set_option maxHeartbeats 8000000
namespace Go.Proofs.YtenlbhlllgppmaaGreatDoor
open Go.RowKit
def lbad (n u v s:Nat):Bool:=(Nat.gcd s n==1)&&(decide (s*u % n<u)||(decide (s*u % n=u)&&decide (s*v % n<v)))
theorem lex_le {n u v A B:Nat} (hv:v<n) (hB:B<n):u*n+v≤A*n+B↔¬ (A<u∨A=u∧B<v):=by
 constructor
 ·rintro h (h1 |⟨rfl,h1⟩)
  ·have h2:(A+1)*n≤u*n:=Nat.mul_le_mul_right _ h1
   rw[Nat.add_mul,Nat.one_mul]at h2
   omega
  ·omega
 ·intro h
  rcases Nat.lt_trichotomy A u with h1|h1|h1
  ·exact absurd (.inl h1) h
  ·subst h1
   have:v≤B:=by
    rcases Nat.lt_or_ge B v with h2|h2
    ·exact absurd (.inr ⟨rfl,h2⟩) h
    ·exact h2
   omega
  ·have h2:(u+1)*n≤A*n:=Nat.mul_le_mul_right _ h1
   rw[Nat.add_mul,Nat.one_mul]at h2
   omega
theorem lbad_plst {n u v:Nat} (hu:u<n) (hv:v<n):(∀ s,2≤s→s<n→lbad n u v s=false)↔plst n (u*n+v)=true:=by
 have hn:0<n:=by omega
 have hd:(u*n+v) / n=u:=by rw[Nat.mul_comm,Nat.mul_add_div hn,Nat.div_eq_of_lt hv,Nat.add_zero]
 have hm:(u*n+v) % n=v:=by rw[Nat.mul_comm,Nat.mul_add_mod,Nat.mod_eq_of_lt hv]
 have hp:∀ s,pmul n s (u*n+v)=s*u % n*n+s*v % n:=fun s=>by unfold pmul;rw[hd,hm]
 have hlt:u*n+v<n*n:=by
  have:(u+1)*n≤n*n:=Nat.mul_le_mul_right _ hu
  rw[Nat.add_mul,Nat.one_mul]at this
  omega
 rw[plst_iff]
 constructor
 ·intro h s h1 h2 h3
  rcases Nat.eq_or_lt_of_le h1 with rfl|h4
  ·rw[pmul_one hlt];exact Nat.le_refl _
  ·rcases Nat.eq_or_lt_of_le h2 with rfl|h5
   ·exfalso
    unfold pun at h3
    simp only[beq_iff_eq,Nat.gcd_self]at h3
    omega
   ·have h6:=h s h4 h5
    unfold lbad at h6
    unfold pun at h3
    rw[h3,Bool.true_and]at h6
    rw[hp,lex_le hv (Nat.mod_lt _ hn)]
    intro h7
    have h8:(decide (s*u % n<u)||(decide (s*u % n=u)&&decide (s*v % n<v)))=true:=by
     rcases h7 with h7 |⟨h7,h8⟩
     ·simp[h7]
     ·simp[h7,h8]
    rw[h8]at h6
    cases h6
 ·intro h s h1 h2
  unfold lbad
  cases hg:(Nat.gcd s n==1)with
  | false=>rfl
  | true=>
   have h3:=h s (by omega) (by omega) hg
   rw[hp,lex_le hv (Nat.mod_lt _ hn)]at h3
   rw[Bool.true_and]
   cases hb:(decide (s*u % n<u)||(decide (s*u % n=u)&&decide (s*v % n<v)))with
   | false=>rfl
   | true=>
    exfalso
    apply h3
    simp only[Bool.or_eq_true,Bool.and_eq_true,decide_eq_true_eq]at hb
    exact hb
theorem pts_step {n k:Nat} (hn:0<n) (hk:k<n*n):pts n (k+1)=if pok n k&&plst n k then pts n k++[k]else pts n k:=by
 rw[pts_filter hn (k+1) hk,pts_filter hn k (by omega),List.range_succ,List.filter_append]
 cases hc:(pok n k&&plst n k)with
 | true=>rw[if_pos rfl];simp[hc]
 | false=>rw[if_neg (by decide)];simp[hc]
theorem c_least21 (n u v:Nat) (w:World) (hu:u<n) (hv:v<n) (hn:n≤1000):
  Calls Tryz.prog 185 #[.int .i64 n,.int .i64 u,.int .i64 v] w fun e w'=>e=.returned (.bool (plst n (u*n+v)))∧∃ m,w'=w.drewN m:=by
 have HPL:=Kh (lbad_plst hu hv)
 go_enter Tryz.func185,Tryz.ntmps185
 go_wp2
 go_loopw [7] (fun x wr=>∃ s:Nat,2≤s∧s≤n+2∧x=.int .i64 s∧(∀ t,2≤t→t<s→lbad n u v t=false)∧∃ m,wr=w.drewN m) (fun x _=>n+2 - (intOf x).toNat)
 case atStart=>exact⟨2,Nat.le_refl _,by omega,rfl,fun t h1 h2=>by omega,0,rfl⟩
 case round=>
  obtain⟨s,hs,hs2,rfl,hl,m,rfl⟩:=hrel
  have HL:=Kh hl
  clear hl
  by_cases hlt:s<n
  ·have hsi:(s:Int)<(n:Int):=by omega
   obtain⟨P,hP⟩:∃ x,s*u=x:=⟨_,rfl⟩
   obtain⟨Q,hQ⟩:∃ x,s*v=x:=⟨_,rfl⟩
   obtain⟨A,hA⟩:∃ x,P % n=x:=⟨_,rfl⟩
   obtain⟨B,hB⟩:∃ x,Q % n=x:=⟨_,rfl⟩
   have hPl:P≤1000000:=by rw[← hP];exact Nat.mul_le_mul (by omega:s≤1000) (by omega:u≤1000)
   have hQl:Q≤1000000:=by rw[← hQ];exact Nat.mul_le_mul (by omega:s≤1000) (by omega:v≤1000)
   have e1:(s:Int)*(u:Int)=(P:Nat):=by rw[← hP];push_cast;rfl
   have e2:(s:Int)*(v:Int)=(Q:Nat):=by rw[← hQ];push_cast;rfl
   have e3:Int.tmod (P:Int) (n:Int)=(A:Nat):=by rw[Int.tmod_eq_emod_of_nonneg (by omega),← hA];rfl
   have e4:Int.tmod (Q:Int) (n:Int)=(B:Nat):=by rw[Int.tmod_eq_emod_of_nonneg (by omega),← hB];rfl
   have e5:((n:Int)==0)=false:=by simp;omega
   have hAn:A<n:=by rw[← hA];exact Nat.mod_lt _ (by omega)
   have hBn:B<n:=by rw[← hB];exact Nat.mod_lt _ (by omega)
   have v1:IntKind.i64.wrap (P:Int)=(P:Nat):=IntWalk.i64_in _ (by omega)
   have v2:IntKind.i64.wrap (Q:Int)=(Q:Nat):=IntWalk.i64_in _ (by omega)
   have v3:IntKind.i64.wrap (A:Int)=(A:Nat):=IntWalk.i64_in _ (by omega)
   have v4:IntKind.i64.wrap (B:Int)=(B:Nat):=IntWalk.i64_in _ (by omega)
   have HLB:=Kh (show lbad n u v s=((Nat.gcd s n==1)&&(decide (A<u)||(decide (A=u)&&decide (B<v))))by unfold lbad;rw[hP,hQ,hA,hB])
   have HPL2:=Kh (show lbad n u v s=true→plst n (u*n+v)=false from fun h=>by
    cases hp:plst n (u*n+v)with
    | false=>rfl
    | true=>have:=HPL.out.2 hp s hs hlt;rw[h]at this;cases this)
   have HNX:=Kh (show lbad n u v s=false→∀ t,2≤t→t<s+1→lbad n u v t=false from fun h t h1 h2=>by
    rcases Nat.eq_or_lt_of_le (Nat.lt_succ_iff.1 h2)with rfl|h3
    ·exact h
    ·exact HL.out t h1 h3)
   clear hP hQ hA hB
   go_wp2_with fail
   refine(c_gcd18 s n (w.drewN m) (by omega) (by omega) (by omega) (by omega)).mono ?_
   rintro e w1 ⟨rfl,m1,rfl⟩
   have hg1:Int.gcd (s:Int) (n:Int)=Nat.gcd s n:=rfl
   rw[hg1,dr2]
   by_cases hg:Nat.gcd s n=1
   ·have hg2:(((Nat.gcd s n:Nat):Int)==1)=true:=by rw[hg];rfl
    have hg3:(Nat.gcd s n==1)=true:=by rw[hg];rfl
    rw[hg3,Bool.true_and]at HLB
    clear hg hg3 hg1
    rcases Nat.lt_trichotomy A u with h1|h1|h1
    ·have h2:(A:Int)<(u:Int):=by omega
     have HB:=Kh (HPL2.out (by rw[HLB.out];simp[h1]))
     go_wp2
     go_ret
     exact⟨ret_b (by rw[HB.out]),_,rfl⟩
    ·have h2:((A:Int)==(u:Int))=true:=by rw[h1];simp
     have h3:¬ ((A:Int)<(u:Int)):=by omega
     by_cases h4:B<v
     ·have h5:(B:Int)<(v:Int):=by omega
      have HB:=Kh (HPL2.out (by rw[HLB.out];simp[h1,h4]))
      clear h1
      go_wp2
      go_ret
      exact⟨ret_b (by rw[HB.out]),_,rfl⟩
     ·have h5:¬ ((B:Int)<(v:Int)):=by omega
      have HB:=Kh (HNX.out (by rw[HLB.out];simp[h1,h4]))
      clear h1
      go_wp2
      all_goals try(exfalso;omega)
      all_goals go_roundw
      all_goals first
       | exact⟨s+1,by omega,by omega,by go_num,HB.out,_,rfl⟩
       |(simp[intOf];omega)
    ·have h2:((A:Int)==(u:Int))=false:=by simp;omega
     have h3:¬ ((A:Int)<(u:Int)):=by omega
     have HB:=Kh (HNX.out (by
      rw[HLB.out]
      have h4:¬ A<u:=by omega
      have h5:¬ A=u:=by omega
      simp[h4,h5]))
     go_wp2
     go_roundw
     case rel=>exact⟨s+1,by omega,by omega,by go_num,HB.out,_,rfl⟩
     case measure=>simp[intOf];omega
   ·have hg2:(((Nat.gcd s n:Nat):Int)==1)=false:=by simp;omega
    have HB:=Kh (HNX.out (by
     rw[HLB.out]
     have h4:(Nat.gcd s n==1)=false:=by simpa using hg
     rw[h4];rfl))
    clear hg hg1
    go_wp2
    go_roundw
    case rel=>exact⟨s+1,by omega,by omega,by go_num,HB.out,_,rfl⟩
    case measure=>simp[intOf];omega
  ·have HB:=Kh (show plst n (u*n+v)=true from HPL.out.1 (fun t h1 h2=>HL.out t h1 (by omega)))
   go_wp2
   go_ret
   exact⟨ret_b (by rw[HB.out]),_,rfl⟩
theorem c_Err21 (n:Nat) (w:World) (h0:0<n) (hn:n≤120):
  Calls Tryz.prog 183 #[.int .i64 n] w fun e w'=>e=.returned (.int .i64 0)∧w'=w:=by
 go_enter Tryz.func183,Tryz.ntmps183
 go_wp2
 all_goals try(exfalso;omega)
 all_goals go_ret
 all_goals exact⟨rfl,rfl⟩
theorem c_List21 (n:Nat) (w:World) (h0:0<n) (hn:n≤120):
  Calls Tryz.prog 141 #[.int .i64 n] w fun e w'=>(∃ v,e=.returned (.tuple #[v,.int .i64 0])∧OwnPt n (pts n (n*n)) w' w.heap.size v)∧Below w.heap.size w w':=by
 have HN:=Kh (OwnPt.nil n w w.heap.size)
 go_enter Tryz.func141,Tryz.ntmps141
 go_wp2_with fail
 refine(c_Err21 n w h0 hn).mono ?_
 rintro e w1 ⟨rfl,hw⟩
 rw[hw]
 clear hw
 go_wp2_with fail
 go_loopw [5,6] (fun o x wr=>∃ u:Nat,u≤n∧x=.int .i64 u∧OwnPt n (pts n (u*n)) wr w.heap.size o∧Below w.heap.size w wr) (fun _ x _=>n - (intOf x).toNat)
 case atStart=>exact⟨0,Nat.zero_le _,rfl,by rw[Nat.zero_mul];exact HN.out,Below.refl _ _⟩
 case round=>
  obtain⟨u,hu,rfl,hpt,hb⟩:=hrel
  have HPT:=Kh hpt
  have HB:=Kh hb
  clear hpt hb
  by_cases hlt:u<n
  ·have hui:(u:Int)<(n:Int):=by omega
   have HP0:=Kh (show OwnPt n (pts n (u*n+0)) wr w.heap.size u5 from HPT.out)
   go_wp2_with fail
   obtain⟨w2,rfl⟩:∃ w2:World,w2=wr:=⟨_,rfl⟩
   go_loopw [5,7] (fun o x wr=>∃ v:Nat,v≤n∧x=.int .i64 v∧OwnPt n (pts n (u*n+v)) wr w.heap.size o∧Below w.heap.size w wr) (fun _ x _=>n - (intOf x).toNat)
   case atStart=>exact⟨0,Nat.zero_le _,rfl,HP0.out,HB.out⟩
   case round=>
    obtain⟨v,hv,rfl,hpt,hb⟩:=hrel
    obtain⟨w3,rfl⟩:∃ w3:World,w3=wr:=⟨_,rfl⟩
    have HPT3:=Kh hpt
    have HB3:=Kh hb
    clear hpt hb HP0 HPT HB
    by_cases hltv:v<n
    ·have hvi:(v:Int)<(n:Int):=by omega
     obtain⟨k,hk⟩:∃ k,u*n+v=k:=⟨_,rfl⟩
     have hkn:k<n*n:=by
      have:(u+1)*n≤n*n:=Nat.mul_le_mul_right _ hlt
      rw[Nat.add_mul,Nat.one_mul]at this
      omega
     have hkd:k / n=u:=by rw[← hk,Nat.mul_comm,Nat.mul_add_div h0,Nat.div_eq_of_lt hltv,Nat.add_zero]
     have hkm:k % n=v:=by rw[← hk,Nat.mul_comm,Nat.mul_add_mod,Nat.mod_eq_of_lt hltv]
     have HST:=Kh (pts_step h0 hkn)
     have HPO:=Kh (show pok n k=(Nat.gcd (Nat.gcd u v) n==1)by unfold pok;rw[hkd,hkm])
     have HPC:=Kh (show ptc n k=[.int .i64 (u:Int),.int .i64 (v:Int),.int .i64 1]by unfold ptc;rw[hkd,hkm])
     have HKN:=Kh (show(pts n k).length≤14400 from Nat.le_trans (pts_length n k) (by have:n*n≤120*120:=Nat.mul_le_mul hn hn;omega))
     have HLE:=Kh (show ∀ W,Calls Tryz.prog 185 #[.int .i64 n,.int .i64 u,.int .i64 v] W fun e w'=>e=.returned (.bool (plst n k))∧∃ m,w'=W.drewN m from fun W=>hk▸c_least21 n u v W hlt hltv (by omega))
     have HKS:=Kh (show u*n+(v+1)=k+1 by omega)
     rw[hk]at HPT3
     clear hkn hkd hkm hk
     go_wp2_with fail
     refine(c_gcd18 u v w3 (by omega) (by omega) (by omega) (by omega)).mono ?_
     rintro e w4 ⟨rfl,m1,rfl⟩
     have hg1:Int.gcd (u:Int) (v:Int)=Nat.gcd u v:=rfl
     obtain⟨G,hG⟩:∃ G,Nat.gcd u v=G:=⟨_,rfl⟩
     have hGl:G≤1000:=by
      rw[← hG]
      rcases Nat.eq_zero_or_pos u with h|h
      ·subst h;rw[Nat.gcd_zero_left];omega
      ·exact Nat.le_trans (Nat.gcd_le_left _ h) (by omega)
     rw[hg1,hG]
     rw[hG]at HPO
     clear hg1 hG
     go_wp2_with fail
     refine(c_gcd18 G n _ (by omega) (by omega) (by omega) (by omega)).mono ?_
     rintro e w4 ⟨rfl,m2,rfl⟩
     have hg1:Int.gcd (G:Int) (n:Int)=Nat.gcd G n:=rfl
     rw[hg1,dr2]
     clear hg1
     cases hg:(Nat.gcd G n==1)with
     | false=>
      have hg2:(((Nat.gcd G n:Nat):Int)==1)=false:=by
       simp only[beq_eq_false_iff_ne]at hg
       simp;omega
      have HE:=Kh (show pts n (k+1)=pts n k by rw[HST.out,HPO.out,hg,Bool.false_and,if_neg (by decide)])
      have HPD:=Kh (HPT3.out.keep (below_drewN' (Below.refl _ w3) (m1+m2)))
      have HBD:=Kh (below_drewN' HB3.out (m1+m2))
      clear hg
      go_wp2
      go_roundw
      case rel=>exact⟨v+1,by omega,by go_num,by rw[HKS.out,HE.out];exact HPD.out,HBD.out⟩
      case measure=>simp[intOf];omega
     | true=>
      have hg2:(((Nat.gcd G n:Nat):Int)==1)=true:=by
       simp only[beq_iff_eq]at hg
       rw[hg];rfl
      have HPO2:=Kh (show pok n k=true by rw[HPO.out,hg])
      clear hg HPO
      go_wp2_with fail
      refine(HLE.out _).mono ?_
      rintro e w4 ⟨rfl,m3,rfl⟩
      rw[dr2]
      obtain⟨w5,hw5⟩:∃ w5,w3.drewN (m1+m2+m3)=w5:=⟨_,rfl⟩
      have HPD:=Kh (hw5▸HPT3.out.keep (below_drewN' (Below.refl _ w3) (m1+m2+m3)))
      have HBD:=Kh (hw5▸below_drewN' HB3.out (m1+m2+m3))
      rw[hw5]
      clear hw5 HPT3 HB3
      cases hl:plst n k with
      | false=>
       have HE:=Kh (show pts n (k+1)=pts n k by rw[HST.out,hl,Bool.and_false,if_neg (by decide)])
       clear hl
       go_wp2
       go_roundw
       case rel=>exact⟨v+1,by omega,by go_num,by rw[HKS.out,HE.out];exact HPD.out,HBD.out⟩
       case measure=>simp[intOf];omega
      | true=>
       have HE:=Kh (show pts n (k+1)=pts n k++[k]by rw[HST.out,hl,HPO2.out];rfl)
       have HKO:=Kh (show OwnK NotU32 w5 w.heap.size 213 3 u5 (pts n k).length ((pts n k).flatMap (ptc n))from HPD.out)
       clear hl
       go_wp2_with (at_builtin;refine wpl_app2 NotU32 rfl (.tmp 35) (.tmp 39) _ 213 rfl Tryz.underlying159 ptInfo rfl (by decide) w.heap.size (pts n k).length u5 ((pts n k).flatMap (ptc n)) [.int .i64 (u:Int),.int .i64 (v:Int),.int .i64 1] rfl HKO.out rfl rfl (by intro u hu;simp at hu;rcases hu with rfl|rfl|rfl <;> rfl) (by have:=HKN.out;omega) (by have:=HKN.out;omega) HBD.out.size (by intro u hu;simp at hu;rcases hu with rfl|rfl|rfl <;> exact fun _ h=>by cases h) (by intro u hu;simp[Value.cells]at hu;rcases hu with rfl|rfl|rfl <;> exact fun _ h=>by cases h) ?_;intro v9 w9 hown9 hgr9 hat9;have HO9:=Kh (show OwnPt n (pts n k++[k]) w9 w.heap.size v9 from OwnPt.push (by rw[HPC.out];exact hown9));have HB9:=Kh (own_below HBD.out HKO.out.1 hgr9 (Nat.le_refl _) HBD.out.size);clear hown9 hgr9 hat9)
       go_roundw
       case rel=>exact⟨v+1,by omega,by go_num,by rw[HKS.out,HE.out];exact HO9.out,HB9.out⟩
       case measure=>simp[intOf];omega
    ·obtain rfl:n=v:=by omega
     have HE:=Kh (show u*n+n=(u+1)*n by rw[Nat.add_mul,Nat.one_mul])
     go_wp2
     go_roundw
     case rel=>exact⟨u+1,by omega,by go_num,by rw[← HE.out];exact HPT3.out,HB3.out⟩
     case measure=>simp[intOf];omega
  ·obtain rfl:n=u:=by omega
   go_wp2
   (first|go_ret2|go_ret)
   exact⟨⟨_,rfl,HPT.out⟩,HB.out⟩
theorem c_Psi40 (n:Nat) (w:World) (h0:0<n) (hn:n≤120):
  Calls Tryz.prog 90 #[.int .i64 n] w fun e w'=>e=.returned (.int .i64 ((pts n (n*n)).length:Int))∧Below w.heap.size w w':=by
 go_enter Tryz.func90,Tryz.ntmps90
 go_wp2_with fail
 refine(c_List21 n w h0 hn).mono ?_
 rintro e w1 ⟨⟨v,rfl,hpt⟩,hb⟩
 obtain⟨p,c,rfl⟩:=own_slice hpt.1
 have HB:=Kh hb
 clear hpt hb
 go_wp2
 go_ret
 exact⟨rfl,HB.out⟩
theorem check_zero {N k D:Int} (h:Pl.check N k D=0):1≤N∧N≤120∧2≤k∧k≤24∧-120≤D∧D≤120:=by
 by_cases hr:N<1∨120<N∨k<2∨24<k∨D < -120∨120<D
 ·rw[check_range hr]at h;cases h
 ·omega
theorem c_Count40 (n wt:Nat) (D:Int) (w:World) (hck:Pl.check n ((wt:Int)+2) D=0):
  Calls Tryz.prog 46 #[.agg #[.int .i64 n,.int .i64 ((wt:Int)+2),.int .i64 D]] w fun e w'=>e=.returned (.tuple #[.int .i64 (((wt+1)*(pts n (n*n)).length:Nat):Int),.int .i64 0])∧Below w.heap.size w w':=by
 obtain⟨h1,h2,h3,h4,h5,h6⟩:=check_zero hck
 have HPS:=Kh (fun W=>c_Psi40 n W (by omega) (by omega))
 have hpl:(pts n (n*n)).length≤14400:=Nat.le_trans (pts_length n (n*n)) (by have:n*n≤120*120:=Nat.mul_le_mul (by omega) (by omega);omega)
 obtain⟨P,hP⟩:∃ P,(pts n (n*n)).length=P:=⟨_,rfl⟩
 rw[hP]at HPS hpl ⊢
 obtain⟨C,hC⟩:∃ C,(wt+1)*P=C:=⟨_,rfl⟩
 have hCl:C≤331200:=by rw[← hC];exact Nat.mul_le_mul (by omega:wt+1≤23) hpl
 obtain⟨W1,hW1⟩:∃ x,wt+1=x:=⟨_,rfl⟩
 have v0:IntKind.i64.wrap ((wt:Int)+2 - 1)=(W1:Nat):=by rw[show(wt:Int)+2 - 1=(W1:Nat)by omega];exact IntWalk.i64_in _ (by omega)
 have e1:(W1:Int)*(P:Int)=(C:Nat):=by rw[← hC,← hW1];push_cast;rfl
 have v1:IntKind.i64.wrap (C:Int)=(C:Nat):=IntWalk.i64_in _ (by omega)
 rw[hC]
 have HCK:=Kh hck
 clear hck hP hC hW1
 go_enter Tryz.func46,Tryz.ntmps46
 go_wp2_with fail
 obtain⟨w0,hw0,X0,hb0⟩:=bx1 w #[.int .i64 n,.int .i64 ((wt:Int)+2),.int .i64 D] 23
 rw[hw0]
 refine(c_Check31 n ((wt:Int)+2) D w0).mono ?_
 rintro e w1 ⟨rfl,hb1⟩
 rw[HCK.out]
 have HX1:=Kh (X0.below_ hb1 X0.lt)
 have HB1:=Kh (hb0.trans (hb1.mono hb0.size))
 obtain⟨gs,hgs⟩:∃ x,w.heap.size=x:=⟨_,rfl⟩
 rw[hgs]at HX1 ⊢
 have x0:=HX1.out.at_ 0 rfl
 have x1:=HX1.out.at_ 1 rfl
 have HGS:=Kh hgs
 clear hw0 X0 hb0 hb1 hgs
 have HS1:=Kh (show ∀ w4,Below w1.heap.size w1 w4→(w4.cell? ⟨gs,0,none⟩=some (.int .i64 (n:Int))∧w4.cell? ⟨gs,1,none⟩=some (.int .i64 ((wt:Int)+2)))from fun w4 hb=>⟨cell_next hb x0,cell_next hb x1⟩)
 have hS0:=HS1.out _ (Below.refl _ w1).drew
 have HK1:=Kh (show ∀ wb,Below w1.drew.heap.size w1.drew wb→Below w1.heap.size w1 wb from fun wb hb=>(Below.refl _ w1).drew.trans hb)
 go_upto_region 4 with(fail)
 go_region_held3 (fun w4=>w4.cell? ⟨gs,0,none⟩=some (.int .i64 (n:Int))∧w4.cell? ⟨gs,1,none⟩=some (.int .i64 ((wt:Int)+2)))
  (first|with_reducible exact hS0|with_reducible exact HS1.out _ hbN |(exfalso;assumption))
  (first
   |(go_at_call 90;with_reducible refine(HPS.out _).mono ?_;rintro e w5 ⟨rfl,hb5⟩;have hbN:Below w1.heap.size w1 w5:=HK1.out _ hb5))
 all_goals have HBN:=Kh hbN
 all_goals go_wp2
 all_goals (first|go_ret2|go_ret)
 all_goals exact⟨rfl,HB1.out.trans (HBN.out.mono HB1.out.size)⟩
theorem c_Count40_bad (N k D:Int) (w:World) (hck:Pl.check N k D≠0):
  Calls Tryz.prog 46 #[.agg #[.int .i64 N,.int .i64 k,.int .i64 D]] w fun e w'=>e=.returned (.tuple #[.int .i64 0,.int .i64 (Pl.check N k D)])∧Below w.heap.size w w':=by
 obtain⟨er,her⟩:∃ er,Pl.check N k D=er:=⟨_,rfl⟩
 have HER:=Kh her
 rw[her]at hck ⊢
 clear her
 go_enter Tryz.func46,Tryz.ntmps46
 go_wp2_with fail
 obtain⟨w0,hw0,X0,hb0⟩:=bx1 w #[.int .i64 N,.int .i64 k,.int .i64 D] 23
 rw[hw0]
 refine(c_Check31 N k D w0).mono ?_
 rintro e w1 ⟨rfl,hb1⟩
 have HB:=Kh (hb0.trans (hb1.mono hb0.size))
 rw[HER.out]
 have hne:(er != 0)=true:=by simpa using hck
 clear hw0 X0 hb0 hb1
 go_wp2
 (first|go_ret2|go_ret)
 exact⟨rfl,HB.out⟩
theorem c_Large (n wt:Nat) (D:Int) (w:World) (hck:Pl.check n ((wt:Int)+2) D=0):
  Calls Tryz.prog 10 #[.agg #[.int .i64 n,.int .i64 ((wt:Int)+2),.int .i64 D]] w fun e w'=>e=.returned (.bool (decide (72<(wt+1)*(pts n (n*n)).length)))∧Below w.heap.size w w':=by
 have HCO:=Kh (fun W=>c_Count40 n wt D W hck)
 obtain⟨C,hC⟩:∃ C,(wt+1)*(pts n (n*n)).length=C:=⟨_,rfl⟩
 rw[hC]at HCO ⊢
 clear hck hC
 go_enter Tryz.func10,Tryz.ntmps10
 go_wp2_with fail
 have hb0:Below w.heap.size w (w.alloc (.cells #[.int .i64 n,.int .i64 ((wt:Int)+2),.int .i64 D] 23)):=(Below.refl _ _).alloc (Nat.le_refl _) _
 refine(HCO.out _).mono ?_
 rintro e w1 ⟨rfl,hb1⟩
 have HB:=Kh (hb0.trans (hb1.mono hb0.size))
 clear hb0 hb1
 by_cases h:72<C
 ·have h2:(72:Int)<(C:Int):=by omega
  go_wp2
  go_ret
  exact⟨ret_b (by simp[h]),HB.out⟩
 ·have h2:¬ ((72:Int)<(C:Int)):=by omega
  go_wp2
  go_ret
  exact⟨ret_b (by simp;omega),HB.out⟩
theorem c_Large_bad (N k D:Int) (w:World) (hck:Pl.check N k D≠0):
  Calls Tryz.prog 10 #[.agg #[.int .i64 N,.int .i64 k,.int .i64 D]] w fun e w'=>e=.returned (.bool false)∧Below w.heap.size w w':=by
 have HCO:=Kh (fun W=>c_Count40_bad N k D W hck)
 have hne:(Pl.check N k D==0)=false:=by simpa using hck
 clear hck
 go_enter Tryz.func10,Tryz.ntmps10
 go_wp2_with fail
 have hb0:Below w.heap.size w (w.alloc (.cells #[.int .i64 N,.int .i64 k,.int .i64 D] 23)):=(Below.refl _ _).alloc (Nat.le_refl _) _
 refine(HCO.out _).mono ?_
 rintro e w1 ⟨rfl,hb1⟩
 have HB:=Kh (hb0.trans (hb1.mono hb0.size))
 clear hb0 hb1
 go_wp2
 go_ret
 exact⟨rfl,HB.out⟩
end Go.Proofs.YtenlbhlllgppmaaGreatDoor
namespace Go.Proofs.YtenlbhlllgppmaaGreatDoor
open Go.RowKit Eli
theorem kro3 (D:Int) (l:Nat):Pl.kroP D l=0∨Pl.kroP D l=1∨Pl.kroP D l=-1:=by
 have h:-1≤Pl.kroP D l∧Pl.kroP D l≤1:=by
  unfold Pl.kroP
  dsimp only
  split
  ·omega
  ·have h:=jac_pm (l / 2 ^ Lib.ctz 64 l+1) (D % (l / 2 ^ Lib.ctz 64 l:Nat)).toNat (l / 2 ^ Lib.ctz 64 l) 1 (.inl rfl)
   split <;> omega
 omega
def relF (n wt:Nat) (D:Int) (p:Nat):Int:=relOf n wt D (p / ((wt+1)*(pts n (n*n)).length)) (p % ((wt+1)*(pts n (n*n)).length))
def cntF (n wt:Nat):Nat:=(wt+1)*(pts n (n*n)).length
def elF (n wt:Nat) (D:Int):Nat→List (Nat×Rat):=elim (cntF n wt) (rowF (cntF n wt) (relF n wt D)) (2*cntF n wt)
theorem relF_small {n wt:Nat} {D:Int} (hw:wt≤22) (p:Nat):(relF n wt D p).natAbs≤16777216:=relE_small (plAll_ok (kro3 D) n) hw _ _
theorem elF_good {n wt:Nat} {D:Int} (hw:wt≤22):Eli.Good (cntF n wt) 16777216 (elF n wt D):=Eli.Good.elim (by omega) (rowF_small (relF_small hw)) (rowF_zero _ _) _
theorem pts_zero {n:Nat} (hn:0<n):0<(pts n (n*n)).length:=by
 have key:∀ a,a<n*n→pok n a=true→plst n a=true→0<(pts n (n*n)).length:=by
  intro a h1 h2 h3
  refine List.length_pos_of_mem (a:=a) ?_
  rw[pts_filter hn _ (Nat.le_refl _),List.mem_filter]
  exact⟨List.mem_range.2 h1,by rw[h2,h3];rfl⟩
 rcases Nat.eq_or_lt_of_le (show 1≤n from hn)with rfl|h
 ·exact key 0 (by omega) (by decide) (by decide)
 ·have h1:1<n*n:=Nat.lt_of_lt_of_le h (Nat.le_mul_of_pos_left n hn)
  have hd:1 / n=0:=Nat.div_eq_of_lt h
  have hm:1 % n=1:=Nat.mod_eq_of_lt h
  refine key 1 h1 ?_ ?_
  ·unfold pok;rw[hd,hm];simp
  ·rw[plst_iff]
   intro s h2 h3 h4
   have h5:s≠n:=fun e=>by
    subst e
    unfold pun at h4
    simp only[beq_iff_eq,Nat.gcd_self]at h4
    omega
   unfold pmul
   rw[hd,hm,Nat.mul_zero,Nat.zero_mod,Nat.zero_mul,Nat.zero_add,Nat.mul_one,Nat.mod_eq_of_lt (by omega)]
   exact h2
theorem cntF_pos {n wt:Nat} (hn:0<n):0<cntF n wt:=Nat.mul_pos (by omega) (pts_zero hn)
theorem c_New (n wt:Nat) (D:Int) (w:World) (hT:Tab w) (hck:Pl.check n ((wt:Int)+2) D=0) (hC:cntF n wt≤72):
  Calls Tryz.prog 11 #[.agg #[.int .i64 n,.int .i64 ((wt:Int)+2),.int .i64 D]] w fun e w'=>(∃ M,e=.returned (.tuple #[.pointer (some ⟨M,0,none⟩),.int .i64 0])∧w.heap.size≤M∧ModAt w' M w'.heap.size n ((wt:Int)+2) D (frs (elF n wt D) (cntF n wt)) (cntF n wt) (crd (elF n wt D) (cntF n wt) (cntF n wt)))∧Below w.heap.size w w':=by
 obtain⟨h1,h2,h3,h4,h5,h6⟩:=check_zero hck
 exact c_New_ok n ((wt:Int)+2) D (2*cntF n wt) (cntF n wt) (relF n wt D) w (fun w1 hb=>c_Relations_ok n wt D (pts n (n*n)) (cntF n wt) w1 (hT.below hb) (by omega) (by omega) (by omega) (by omega) (by omega) hck (kro3 D) rfl rfl (cntF_pos (by omega)) hC) (by omega) (cntF_pos (by omega)) hC (relF_small (by omega))
theorem coord_size {n wt:Nat} {D:Int} (hw:wt≤22) (hC:cntF n wt≤72) {j f:Nat} (hj:j<cntF n wt) (hf:f∈frs (elF n wt D) (cntF n wt)):hq (crd (elF n wt D) (cntF n wt) (cntF n wt) j f)≤80:=by
 obtain⟨h1,h2⟩:=frs_mem.1 hf
 exact Nat.le_trans (crd_size (by omega) (elF_good hw) (by omega) (Nat.le_refl _) hj h1 h2) (top_72 hC (Nat.le_refl _))
theorem aw_frs:frs (elF 1 2 1) (cntF 1 2)=[2]:=by decide +kernel
theorem aw_cnt:cntF 1 2=3:=by decide +kernel
theorem aw_check:Pl.check ((1:Nat):Int) (((2:Nat):Int)+2) 1=0:=by decide +kernel
end Go.Proofs.YtenlbhlllgppmaaGreatDoor
namespace Go.Proofs.YtenlbhlllgppmaaGreatDoor
open Eli
def hkV (n wt:Nat) (L:List Nat) (f:Nat→Nat×Int) (r:Nat) (gs:List M4):Nat→Nat→Int
 | 0,_=>0
 | t+1,k=>hkV n wt L f r gs t k+mvd n wt L f (r / L.length) (r % L.length) (gs.getD t (0,0,0,0)) k
def GIn (g:M4):Prop:=(-1073741824≤g.1∧g.1≤1073741824)∧(-1073741824≤g.2.1∧g.2.1≤1073741824)∧(-1073741824≤g.2.2.1∧g.2.2.1≤1073741824)∧(-1073741824≤g.2.2.2∧g.2.2.2≤1073741824)
theorem nd_in {x:Int} (h:-1073741824≤x∧x≤1073741824):nd x.natAbs≤2:=nd_le.2 (show x.natAbs<4294967296 ^ 2 by omega)
theorem mvd_nd {n w:Nat} {L:List Nat} {f:Nat→Nat×Int} {i j:Nat} {g:M4} (hf:TabOk L.length f) (hg:GIn g) (k:Nat):nd (mvd n w L f i j g k).natAbs≤1+3*w:=by
 have key:∀ p:Nat×Int,(p=(0,0)∨p.1<L.length∧(p.2=0∨p.2=1∨p.2=-1))→nd (if p.2=0 then(0:Int)else if k % L.length=p.1∧k / L.length≤w then p.2*mv i g.1 g.2.1 g.2.2.1 g.2.2.2 w (k / L.length)else 0).natAbs≤1+3*w:=by
  intro p hp
  have hp2:p.2.natAbs≤1:=by rcases hp with rfl |⟨_,h|h|h⟩ <;> simp[*]
  have hm:=mv_size i g.1 g.2.1 g.2.2.1 g.2.2.2 (nd_in hg.1) (nd_in hg.2.1) (nd_in hg.2.2.1) (nd_in hg.2.2.2) w (k / L.length)
  have h0:nd (0:Int).natAbs≤1+3*w:=by rw[show(0:Int).natAbs=0 from rfl,nd_zero];omega
  split
  ·exact h0
  split
  ·rw[Int.natAbs_mul]
   rcases(by omega:p.2.natAbs=0∨p.2.natAbs=1)with h|h
   ·rw[h,Nat.zero_mul];exact h0
   ·rw[h,Nat.one_mul];exact hm
  ·exact h0
 exact key _ (hf _)
theorem hkV_nd {n wt:Nat} {L:List Nat} {f:Nat→Nat×Int} {r:Nat} {gs:List M4} (hf:TabOk L.length f) (hg:∀ t,t<gs.length→GIn (gs.getD t (0,0,0,0))) (t k:Nat) (ht:t≤gs.length):nd (hkV n wt L f r gs t k).natAbs≤1+3*wt+t:=by
 induction t with
 | zero=>unfold hkV;rw[show(0:Int).natAbs=0 from rfl,nd_zero];omega
 | succ t ih=>
  unfold hkV
  have h1:=ih (by omega)
  have h2:=mvd_nd (n:=n) (w:=wt) (i:=r / L.length) (j:=r % L.length) hf (hg t (by omega)) k
  have h3:=nd_add_int (hkV n wt L f r gs t k) (mvd n wt L f (r / L.length) (r % L.length) (gs.getD t (0,0,0,0)) k) (K:=1+3*wt+t) h1 (by omega)
  omega
theorem mv_one (i:Nat):∀ k j,mv i 1 0 0 1 k j=if j=min k i then 1 else 0
 | 0,j=>by rw[mv,Nat.zero_min]
 | k+1,j=>by
  rw[mv]
  have e:∀ (p:Prop) [Decidable p],(1:Int)*(if p then 1 else 0)=if p then 1 else 0:=fun p _=>Int.one_mul _
  split
  ·rename_i h
   unfold lin
   rw[mv_one i k,mv_one i k,Int.zero_mul,Int.add_zero,e]
   rcases j with _|j
   ·rw[if_neg (Nat.lt_irrefl 0),if_neg (show ¬ 0=min (k+1) i by omega)]
   ·rw[if_pos (Nat.succ_pos j),Nat.add_sub_cancel]
    by_cases hj:j=min k i
    ·rw[if_pos hj,if_pos (show j+1=min (k+1) i by omega)]
    ·rw[if_neg hj,if_neg (show ¬ j+1=min (k+1) i by omega)]
  ·rename_i h
   unfold lin
   rw[mv_one i k,mv_one i k,e]
   have e0:∀ x:Int,(if 0<j then(0:Int)*x else 0)=0:=fun x=>by split <;> simp
   rw[e0,Int.zero_add]
   by_cases hj:j=min k i
   ·rw[if_pos hj,if_pos (show j=min (k+1) i by omega)]
   ·rw[if_neg hj,if_neg (show ¬ j=min (k+1) i by omega)]
theorem kroP_one (D:Int):Pl.kroP D 1=1:=by
 have h:Lib.ctz 64 1=0:=by decide
 unfold Pl.kroP
 rw[h]
 simp
 rfl
theorem pl_self {n:Nat} {D:Int} {j:Nat} (hn:0<n) (hj:j<(pts n (n*n)).length):plAll n D (pts n (n*n)) n ((pts n (n*n)).getD j 0)=(j,1):=by
 rw[plAll_hit (s:=1) hn hj (Nat.le_refl 1) hn (by simp[pun]) (pmul_one (pts_lt (getD_mem hj))) n hn (Nat.le_refl n),kroP_one]
theorem mvd_one {n w:Nat} {D:Int} {r:Nat} (hn:0<n) (hr:r<(w+1)*(pts n (n*n)).length) (k:Nat) (hk:k<(w+1)*(pts n (n*n)).length):
  mvd n w (pts n (n*n)) (plAll n D (pts n (n*n)) n) (r / (pts n (n*n)).length) (r % (pts n (n*n)).length) (1,0,0,1) k=if k=r then 1 else 0:=by
 have hm:0<(pts n (n*n)).length:=pts_zero hn
 have hj:r % (pts n (n*n)).length<(pts n (n*n)).length:=Nat.mod_lt _ hm
 have hi:r / (pts n (n*n)).length<w+1:=Nat.div_lt_of_lt_mul (by rw[Nat.mul_comm];exact hr)
 have hki:k / (pts n (n*n)).length<w+1:=Nat.div_lt_of_lt_mul (by rw[Nat.mul_comm];exact hk)
 obtain⟨j,hje⟩:∃ j,r % (pts n (n*n)).length=j:=⟨_,rfl⟩
 obtain⟨i,hie⟩:∃ i,r / (pts n (n*n)).length=i:=⟨_,rfl⟩
 have hdr:=Nat.div_add_mod r (pts n (n*n)).length
 have hdk:=Nat.div_add_mod k (pts n (n*n)).length
 rw[hje,hie]at hdr
 rw[hje]at hj ⊢
 rw[hie]at hi ⊢
 obtain⟨e1,_⟩:=pt_pair hn hj
 unfold mvd
 dsimp only
 rw[mvd_index,mvd_index,Int.mul_one,Int.mul_zero,Int.add_zero,Int.mul_zero,Int.mul_one,Int.zero_add]
 have e2:=pl_self (D:=D) hn hj
 unfold kIx at e1
 rw[e1,e2]
 dsimp only
 rw[if_neg (by decide),Int.one_mul,mv_one]
 by_cases h:k=r
 ·subst h
  rw[if_pos ⟨hje,by omega⟩,if_pos (by rw[hie];omega),if_pos rfl]
 ·rw[if_neg h]
  by_cases h2:k % (pts n (n*n)).length=j∧k / (pts n (n*n)).length≤w
  ·rw[if_pos h2,if_neg]
   intro h3
   apply h
   rw[← hdr,← hdk,h2.1,h3,Nat.min_eq_right (by omega)]
  ·rw[if_neg h2]
theorem hkV_one {n w:Nat} {D:Int} {r:Nat} (hn:0<n) (hr:r<(w+1)*(pts n (n*n)).length) (k:Nat) (hk:k<(w+1)*(pts n (n*n)).length):
  hkV n w (pts n (n*n)) (plAll n D (pts n (n*n)) n) r [(1,0,0,1)] 1 k=if k=r then 1 else 0:=by
 unfold hkV hkV
 rw[Int.zero_add]
 exact mvd_one hn hr k hk
theorem hk_two:sumQ (fun j=>(hkV 1 2 (pts 1 (1*1)) (plAll 1 1 (pts 1 (1*1)) 1) 2 [(1,0,0,2),(1,0,1,2),(2,0,0,1),(2,1,0,1)] 4 j:Rat)*crd (elF 1 2 1) (cntF 1 2) (cntF 1 2) j 2) 3=9:=by decide +kernel
def mrA (n a k:Nat):List M4:=(List.range k).map fun c:Nat=>((a:Int),(0:Int),(c:Int),((n / a:Nat):Int))
theorem mrA_succ (n a k:Nat):mrA n a (k+1)=mrA n a k++[((a:Int),(0:Int),(k:Int),((n / a:Nat):Int))]:=by
 unfold mrA
 rw[List.range_succ,List.map_append];rfl
theorem mrA_len (n a k:Nat):(mrA n a k).length=k:=by unfold mrA;simp
def mrD (n a b d0:Nat):Nat→List M4
 | 0=>[]
 | k+1=>if(a*(d0+k) - n) % b=0 then mrD n a b d0 k++[((a:Int),(b:Int),(((a*(d0+k) - n) / b:Nat):Int),((d0+k:Nat):Int))]else mrD n a b d0 k
theorem mrD_len (n a b d0:Nat):∀ k,(mrD n a b d0 k).length≤k
 | 0=>Nat.le_refl 0
 | k+1=>by
  rw[mrD]
  have:=mrD_len n a b d0 k
  split
  ·rw[List.length_append,List.length_singleton];omega
  ·omega
def mr0 (n a:Nat):Nat:=(n+a - 1) / a
def mrN (n a b:Nat):Nat:=(n+(a - b) - 1) / (a - b) - mr0 n a
theorem mrN_lt {n a b k:Nat} (hn:0<n) (hb:b<a):k<mrN n a b↔(mr0 n a+k)*(a - b)<n:=by
 unfold mrN
 obtain⟨e,he⟩:∃ e,a - b=e:=⟨_,rfl⟩
 obtain⟨d,hd⟩:∃ d,mr0 n a+k=d:=⟨_,rfl⟩
 have h1:(mr0 n a+k)+1≤(n+e - 1) / e↔((mr0 n a+k)+1)*e≤n+e - 1:=Nat.le_div_iff_mul_le (by omega)
 rw[he]
 rw[hd]at h1 ⊢
 rw[Nat.succ_mul]at h1
 omega
theorem mrN_le {n a b:Nat} (hn:0<n) (hb:b<a):mrN n a b≤n:=by
 rcases Nat.lt_or_ge n (mrN n a b)with h|h
 ·have h1:=(mrN_lt hn hb).1 h
  have h2:n*1≤(mr0 n a+n)*(a - b):=Nat.mul_le_mul (Nat.le_add_left n (mr0 n a)) (by omega)
  omega
 ·exact h
def mrB (n a:Nat):Nat→List M4
 | 0=>[]
 | k+1=>mrB n a k++mrD n a (k+1) (mr0 n a) (mrN n a (k+1))
theorem mrB_len {n a:Nat} (hn:0<n):∀ k,k<a→(mrB n a k).length≤k*n
 | 0,_=>by rw[Nat.zero_mul];exact Nat.le_refl 0
 | k+1,h=>by
  rw[mrB,List.length_append,Nat.succ_mul]
  have h1:=mrB_len (a:=a) hn k (by omega)
  have h2:=mrD_len n a (k+1) (mr0 n a) (mrN n a (k+1))
  have h3:=mrN_le hn h
  omega
def mrR (n a:Nat):List M4:=if n % a=0 then mrA n a (n / a)else []
def mr (n:Nat):Nat→List M4
 | 0=>[]
 | k+1=>(mr n k++mrR n (k+1))++mrB n (k+1) k
theorem mrR_len (n a:Nat):(mrR n a).length≤n:=by
 unfold mrR
 split
 ·rw[mrA_len];exact Nat.div_le_self _ _
 ·exact Nat.zero_le _
theorem mr_len {n:Nat} (hn:0<n):∀ k,(mr n k).length≤k*(n+k*n)
 | 0=>by rw[Nat.zero_mul];exact Nat.le_refl 0
 | k+1=>by
  rw[mr,List.length_append,List.length_append]
  have h1:=mr_len hn k
  have h2:=mrR_len n (k+1)
  have h3:=mrB_len (a:=k+1) hn k (by omega)
  have h4:k*(n+k*n)≤k*(n+(k+1)*n):=Nat.mul_le_mul_left _ (by rw[Nat.succ_mul];omega)
  rw[Nat.succ_mul k (n+(k+1)*n)]
  have h5:k*n≤(k+1)*n:=Nat.mul_le_mul_right _ (by omega)
  omega
theorem mr_1:mr 1 1=[(1,0,0,1)]:=by decide +kernel
theorem mr_2:mr 2 2=[(1,0,0,2),(1,0,1,2),(2,0,0,1),(2,1,0,1)]:=by decide +kernel
end Go.Proofs.YtenlbhlllgppmaaGreatDoor
namespace Go.Proofs.YtenlbhlllgppmaaGreatDoor
open Go.RowKit Eli
def mcells (g:M4):List Value:=[.int .i64 g.1,.int .i64 g.2.1,.int .i64 g.2.2.1,.int .i64 g.2.2.2]
theorem mcells_one (x:M4):∀ u∈mcells x,u.oneCell'=true:=by intro u hu;simp[mcells]at hu;rcases hu with rfl|rfl|rfl|rfl <;> rfl
theorem m4Info:(Tryz.prog.info? 63).map (fun i=>(i.zero,i.size,i.bytes))=some (some (.agg #[.int .i64 0,.int .i64 0,.int .i64 0,.int .i64 0]),4,32):=by kernel_rfl
theorem mcells_at:∀ (L:List M4) (t i:Nat) (u:Value),t<L.length→i<4→(mcells (L.getD t (0,0,0,0)))[i]?=some u→(L.flatMap mcells)[t*4+i]?=some u
 | [],_,_,_,h,_,_=>absurd h (Nat.not_lt_zero _)
 | x :: r,0,i,u,_,hi,h=>by
  rw[List.flatMap_cons,Nat.zero_mul,Nat.zero_add,List.getElem?_append_left (by show i<4;exact hi)]
  exact h
 | x :: r,t+1,i,u,ht,hi,h=>by
  have e:(t+1)*4+i=4+(t*4+i):=by omega
  have hl:(mcells x).length=4:=rfl
  rw[List.flatMap_cons,e,List.getElem?_append_right (by omega),hl,Nat.add_sub_cancel_left]
  exact mcells_at r t i u (by simpa using ht) hi h
def MatsIn (w:World) (v:Value) (L:List M4):Prop:=∃ g c,v=.slice (some ⟨g,0,none⟩) L.length c∧g<w.heap.size∧∀ t,t<L.length→(w.cell? ⟨g,t*4,none⟩=some (.int .i64 (L.getD t (0,0,0,0)).1)∧w.cell? ⟨g,t*4+1,none⟩=some (.int .i64 (L.getD t (0,0,0,0)).2.1)∧w.cell? ⟨g,t*4+2,none⟩=some (.int .i64 (L.getD t (0,0,0,0)).2.2.1)∧w.cell? ⟨g,t*4+3,none⟩=some (.int .i64 (L.getD t (0,0,0,0)).2.2.2))
theorem MatsIn.keep {w w':World} {v:Value} {L:List M4} (h:MatsIn w v L) (hb:Below w.heap.size w w'):MatsIn w' v L:=by
 obtain⟨g,c,e,hg,hc⟩:=h
 refine⟨g,c,e,Nat.lt_of_lt_of_le hg hb.size,fun t ht=>?_⟩
 obtain⟨h0,h1,h2,h3⟩:=hc t ht
 exact⟨(hb.cell (p:=⟨g,t*4,none⟩) hg).trans h0,(hb.cell (p:=⟨g,t*4+1,none⟩) hg).trans h1,(hb.cell (p:=⟨g,t*4+2,none⟩) hg).trans h2,(hb.cell (p:=⟨g,t*4+3,none⟩) hg).trans h3⟩
theorem mats_own {w:World} {B:Nat} {v:Value} {L:List M4} (h:w.ownsRow B 63 4 v L.length (L.flatMap mcells)) (h0:0<L.length):MatsIn w v L:=by
 have h':=h
 rcases h.2 with⟨_,e2⟩ |⟨g,cap,cs,e1,hB,hg,hn,hcm,hcs,_⟩
 ·omega
 ·subst e1
  have at_:∀ t i u,t<L.length→i<4→(mcells (L.getD t (0,0,0,0)))[i]?=some u→w.cell? ⟨g,t*4+i,none⟩=some u:=fun t i u ht hi hu=>own_read h' (mcells_at L t i u ht hi hu)
  have hlt:g<w.heap.size:=World.block_lt_of_cell? w ⟨g,0*4+0,none⟩ (at_ 0 0 _ h0 (by decide) rfl)
  exact⟨g,cap,rfl,hlt,fun t ht=>⟨at_ t 0 _ ht (by decide) rfl,at_ t 1 _ ht (by decide) rfl,at_ t 2 _ ht (by decide) rfl,at_ t 3 _ ht (by decide) rfl⟩⟩
end Go.Proofs.YtenlbhlllgppmaaGreatDoor
