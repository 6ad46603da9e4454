/- Contract of halfplaneref21.List: the list of P1(Z/n), as the reference counts it. -/
import Derived.Test.YthikonjlgljikaaGreatDoorS24
import Derived.Test.YthikonjlgljikaaGreatDoorS02
import Derived.Test.YthikonjlgljikaaGreatDoorS05
import Derived.Test.YthikonjlgljikaaGreatDoorS11
import Derived.Test.YthikonjlgljikaaGreatDoorS22
import Derived.Test.YthikonjlgljikaaGreatDoorS29
import Derived.Test.YthikonjlgljikaaGreatDoorS16
import Derived.Test.YthikonjlgljikaaGreatDoorS17
set_option linter.unusedSimpArgs false
set_option maxRecDepth 100000
set_option maxHeartbeats 8000000
namespace Go.Proofs.YthikonjlgljikaaGreatDoor
open Go.RowKit
def lbad (n u v s:Nat):Bool:=(Nat.gcd s n==1)&&(decide (s*u % n<u)||(decide (s*u % n=u)&&decide (s*v % n<v)))
theorem lex_le {n u v A B:Nat} (hv:v<n) (hB:B<n):u*n+v≤A*n+B↔¬ (A<u∨A=u∧B<v):=by
 constructor
 ·rintro h (h1 |⟨rfl,h1⟩)
  ·have h2:(A+1)*n≤u*n:=Nat.mul_le_mul_right _ h1
   rw[Nat.add_mul,Nat.one_mul]at h2
   omega
  ·omega
 ·intro h
  rcases Nat.lt_trichotomy A u with h1|h1|h1
  ·exact absurd (.inl h1) h
  ·subst h1
   have:v≤B:=by
    rcases Nat.lt_or_ge B v with h2|h2
    ·exact absurd (.inr ⟨rfl,h2⟩) h
    ·exact h2
   omega
  ·have h2:(u+1)*n≤A*n:=Nat.mul_le_mul_right _ h1
   rw[Nat.add_mul,Nat.one_mul]at h2
   omega
theorem lbad_plst {n u v:Nat} (hu:u<n) (hv:v<n):(∀ s,2≤s→s<n→lbad n u v s=false)↔plst n (u*n+v)=true:=by
 have hn:0<n:=by omega
 have hd:(u*n+v) / n=u:=by rw[Nat.mul_comm,Nat.mul_add_div hn,Nat.div_eq_of_lt hv,Nat.add_zero]
 have hm:(u*n+v) % n=v:=by rw[Nat.mul_comm,Nat.mul_add_mod,Nat.mod_eq_of_lt hv]
 have hp:∀ s,pmul n s (u*n+v)=s*u % n*n+s*v % n:=fun s=>by unfold pmul;rw[hd,hm]
 have hlt:u*n+v<n*n:=by
  have:(u+1)*n≤n*n:=Nat.mul_le_mul_right _ hu
  rw[Nat.add_mul,Nat.one_mul]at this
  omega
 rw[plst_iff]
 constructor
 ·intro h s h1 h2 h3
  rcases Nat.eq_or_lt_of_le h1 with rfl|h4
  ·rw[pmul_one hlt];exact Nat.le_refl _
  ·rcases Nat.eq_or_lt_of_le h2 with rfl|h5
   ·exfalso
    unfold pun at h3
    simp only[beq_iff_eq,Nat.gcd_self]at h3
    omega
   ·have h6:=h s h4 h5
    unfold lbad at h6
    unfold pun at h3
    rw[h3,Bool.true_and]at h6
    rw[hp,lex_le hv (Nat.mod_lt _ hn)]
    intro h7
    have h8:(decide (s*u % n<u)||(decide (s*u % n=u)&&decide (s*v % n<v)))=true:=by
     rcases h7 with h7 |⟨h7,h8⟩
     ·simp[h7]
     ·simp[h7,h8]
    rw[h8]at h6
    cases h6
 ·intro h s h1 h2
  unfold lbad
  cases hg:(Nat.gcd s n==1)with
  | false=>rfl
  | true=>
   have h3:=h s (by omega) (by omega) hg
   rw[hp,lex_le hv (Nat.mod_lt _ hn)]at h3
   rw[Bool.true_and]
   cases hb:(decide (s*u % n<u)||(decide (s*u % n=u)&&decide (s*v % n<v)))with
   | false=>rfl
   | true=>
    exfalso
    apply h3
    simp only[Bool.or_eq_true,Bool.and_eq_true,decide_eq_true_eq]at hb
    exact hb
theorem pts_step {n k:Nat} (hn:0<n) (hk:k<n*n):pts n (k+1)=if pok n k&&plst n k then pts n k++[k]else pts n k:=by
 rw[pts_filter hn (k+1) hk,pts_filter hn k (by omega),List.range_succ,List.filter_append]
 cases hc:(pok n k&&plst n k)with
 | true=>rw[if_pos rfl];simp[hc]
 | false=>rw[if_neg (by decide)];simp[hc]
theorem c_least21 (n u v:Nat) (w:World) (hu:u<n) (hv:v<n) (hn:n≤1000):
  Calls Tryz.prog 209 #[.int .i64 n,.int .i64 u,.int .i64 v] w fun e w'=>e=.returned (.bool (plst n (u*n+v)))∧∃ m,w'=w.drewN m:=by
 have HPL:=Kh (lbad_plst hu hv)
 go_enter Tryz.func209,Tryz.ntmps209
 go_wp2
 go_loopw [7] (fun x wr=>∃ s:Nat,2≤s∧s≤n+2∧x=.int .i64 s∧(∀ t,2≤t→t<s→lbad n u v t=false)∧∃ m,wr=w.drewN m) (fun x _=>n+2 - (intOf x).toNat)
 case atStart=>exact⟨2,Nat.le_refl _,by omega,rfl,fun t h1 h2=>by omega,0,rfl⟩
 case round=>
  obtain⟨s,hs,hs2,rfl,hl,m,rfl⟩:=hrel
  have HL:=Kh hl
  clear hl
  by_cases hlt:s<n
  ·have hsi:(s:Int)<(n:Int):=by omega
   obtain⟨P,hP⟩:∃ x,s*u=x:=⟨_,rfl⟩
   obtain⟨Q,hQ⟩:∃ x,s*v=x:=⟨_,rfl⟩
   obtain⟨A,hA⟩:∃ x,P % n=x:=⟨_,rfl⟩
   obtain⟨B,hB⟩:∃ x,Q % n=x:=⟨_,rfl⟩
   have hPl:P≤1000000:=by rw[← hP];exact Nat.mul_le_mul (by omega:s≤1000) (by omega:u≤1000)
   have hQl:Q≤1000000:=by rw[← hQ];exact Nat.mul_le_mul (by omega:s≤1000) (by omega:v≤1000)
   have e1:(s:Int)*(u:Int)=(P:Nat):=by rw[← hP];push_cast;rfl
   have e2:(s:Int)*(v:Int)=(Q:Nat):=by rw[← hQ];push_cast;rfl
   have e3:Int.tmod (P:Int) (n:Int)=(A:Nat):=by rw[Int.tmod_eq_emod_of_nonneg (by omega),← hA];rfl
   have e4:Int.tmod (Q:Int) (n:Int)=(B:Nat):=by rw[Int.tmod_eq_emod_of_nonneg (by omega),← hB];rfl
   have e5:((n:Int)==0)=false:=by simp;omega
   have hAn:A<n:=by rw[← hA];exact Nat.mod_lt _ (by omega)
   have hBn:B<n:=by rw[← hB];exact Nat.mod_lt _ (by omega)
   have v1:IntKind.i64.wrap (P:Int)=(P:Nat):=IntWalk.i64_in _ (by omega)
   have v2:IntKind.i64.wrap (Q:Int)=(Q:Nat):=IntWalk.i64_in _ (by omega)
   have v3:IntKind.i64.wrap (A:Int)=(A:Nat):=IntWalk.i64_in _ (by omega)
   have v4:IntKind.i64.wrap (B:Int)=(B:Nat):=IntWalk.i64_in _ (by omega)
   have HLB:=Kh (show lbad n u v s=((Nat.gcd s n==1)&&(decide (A<u)||(decide (A=u)&&decide (B<v))))by unfold lbad;rw[hP,hQ,hA,hB])
   have HPL2:=Kh (show lbad n u v s=true→plst n (u*n+v)=false from fun h=>by
    cases hp:plst n (u*n+v)with
    | false=>rfl
    | true=>have:=HPL.out.2 hp s hs hlt;rw[h]at this;cases this)
   have HNX:=Kh (show lbad n u v s=false→∀ t,2≤t→t<s+1→lbad n u v t=false from fun h t h1 h2=>by
    rcases Nat.eq_or_lt_of_le (Nat.lt_succ_iff.1 h2)with rfl|h3
    ·exact h
    ·exact HL.out t h1 h3)
   clear hP hQ hA hB
   go_wp2_with fail
   refine(c_gcd18 s n (w.drewN m) (by omega) (by omega) (by omega) (by omega)).mono ?_
   rintro e w1 ⟨rfl,m1,rfl⟩
   have hg1:Int.gcd (s:Int) (n:Int)=Nat.gcd s n:=rfl
   rw[hg1,dr2]
   by_cases hg:Nat.gcd s n=1
   ·have hg2:(((Nat.gcd s n:Nat):Int)==1)=true:=by rw[hg];rfl
    have hg3:(Nat.gcd s n==1)=true:=by rw[hg];rfl
    rw[hg3,Bool.true_and]at HLB
    clear hg hg3 hg1
    rcases Nat.lt_trichotomy A u with h1|h1|h1
    ·have h2:(A:Int)<(u:Int):=by omega
     have HB:=Kh (HPL2.out (by rw[HLB.out];simp[h1]))
     go_wp2
     go_ret
     exact⟨ret_b (by rw[HB.out]),_,rfl⟩
    ·have h2:((A:Int)==(u:Int))=true:=by rw[h1];simp
     have h3:¬ ((A:Int)<(u:Int)):=by omega
     by_cases h4:B<v
     ·have h5:(B:Int)<(v:Int):=by omega
      have HB:=Kh (HPL2.out (by rw[HLB.out];simp[h1,h4]))
      clear h1
      go_wp2
      go_ret
      exact⟨ret_b (by rw[HB.out]),_,rfl⟩
     ·have h5:¬ ((B:Int)<(v:Int)):=by omega
      have HB:=Kh (HNX.out (by rw[HLB.out];simp[h1,h4]))
      clear h1
      go_wp2
      all_goals try(exfalso;omega)
      all_goals go_roundw
      all_goals first
       | exact⟨s+1,by omega,by omega,by go_num,HB.out,_,rfl⟩
       |(simp[intOf];omega)
    ·have h2:((A:Int)==(u:Int))=false:=by simp;omega
     have h3:¬ ((A:Int)<(u:Int)):=by omega
     have HB:=Kh (HNX.out (by
      rw[HLB.out]
      have h4:¬ A<u:=by omega
      have h5:¬ A=u:=by omega
      simp[h4,h5]))
     go_wp2
     go_roundw
     case rel=>exact⟨s+1,by omega,by omega,by go_num,HB.out,_,rfl⟩
     case measure=>simp[intOf];omega
   ·have hg2:(((Nat.gcd s n:Nat):Int)==1)=false:=by simp;omega
    have HB:=Kh (HNX.out (by
     rw[HLB.out]
     have h4:(Nat.gcd s n==1)=false:=by simpa using hg
     rw[h4];rfl))
    clear hg hg1
    go_wp2
    go_roundw
    case rel=>exact⟨s+1,by omega,by omega,by go_num,HB.out,_,rfl⟩
    case measure=>simp[intOf];omega
  ·have HB:=Kh (show plst n (u*n+v)=true from HPL.out.1 (fun t h1 h2=>HL.out t h1 (by omega)))
   go_wp2
   go_ret
   exact⟨ret_b (by rw[HB.out]),_,rfl⟩
theorem c_Err21 (n:Nat) (w:World) (h0:0<n) (hn:n≤120):
  Calls Tryz.prog 208 #[.int .i64 n] w fun e w'=>e=.returned (.int .i64 0)∧w'=w:=by
 go_enter Tryz.func208,Tryz.ntmps208
 go_wp2
 all_goals try(exfalso;omega)
 all_goals go_ret
 all_goals exact⟨rfl,rfl⟩
theorem c_List21 (n:Nat) (w:World) (h0:0<n) (hn:n≤120):
  Calls Tryz.prog 167 #[.int .i64 n] w fun e w'=>(∃ v,e=.returned (.tuple #[v,.int .i64 0])∧OwnPt n (pts n (n*n)) w' w.heap.size v)∧Below w.heap.size w w':=by
 have HN:=Kh (OwnPt.nil n w w.heap.size)
 go_enter Tryz.func167,Tryz.ntmps167
 go_wp2_with fail
 refine(c_Err21 n w h0 hn).mono ?_
 rintro e w1 ⟨rfl,hw⟩
 rw[hw]
 clear hw
 go_wp2_with fail
 go_loopw [5,6] (fun o x wr=>∃ u:Nat,u≤n∧x=.int .i64 u∧OwnPt n (pts n (u*n)) wr w.heap.size o∧Below w.heap.size w wr) (fun _ x _=>n - (intOf x).toNat)
 case atStart=>exact⟨0,Nat.zero_le _,rfl,by rw[Nat.zero_mul];exact HN.out,Below.refl _ _⟩
 case round=>
  obtain⟨u,hu,rfl,hpt,hb⟩:=hrel
  have HPT:=Kh hpt
  have HB:=Kh hb
  clear hpt hb
  by_cases hlt:u<n
  ·have hui:(u:Int)<(n:Int):=by omega
   have HP0:=Kh (show OwnPt n (pts n (u*n+0)) wr w.heap.size u5 from HPT.out)
   go_wp2_with fail
   obtain⟨w2,rfl⟩:∃ w2:World,w2=wr:=⟨_,rfl⟩
   go_loopw [5,7] (fun o x wr=>∃ v:Nat,v≤n∧x=.int .i64 v∧OwnPt n (pts n (u*n+v)) wr w.heap.size o∧Below w.heap.size w wr) (fun _ x _=>n - (intOf x).toNat)
   case atStart=>exact⟨0,Nat.zero_le _,rfl,HP0.out,HB.out⟩
   case round=>
    obtain⟨v,hv,rfl,hpt,hb⟩:=hrel
    obtain⟨w3,rfl⟩:∃ w3:World,w3=wr:=⟨_,rfl⟩
    have HPT3:=Kh hpt
    have HB3:=Kh hb
    clear hpt hb HP0 HPT HB
    by_cases hltv:v<n
    ·have hvi:(v:Int)<(n:Int):=by omega
     obtain⟨k,hk⟩:∃ k,u*n+v=k:=⟨_,rfl⟩
     have hkn:k<n*n:=by
      have:(u+1)*n≤n*n:=Nat.mul_le_mul_right _ hlt
      rw[Nat.add_mul,Nat.one_mul]at this
      omega
     have hkd:k / n=u:=by rw[← hk,Nat.mul_comm,Nat.mul_add_div h0,Nat.div_eq_of_lt hltv,Nat.add_zero]
     have hkm:k % n=v:=by rw[← hk,Nat.mul_comm,Nat.mul_add_mod,Nat.mod_eq_of_lt hltv]
     have HST:=Kh (pts_step h0 hkn)
     have HPO:=Kh (show pok n k=(Nat.gcd (Nat.gcd u v) n==1)by unfold pok;rw[hkd,hkm])
     have HPC:=Kh (show ptc n k=[.int .i64 (u:Int),.int .i64 (v:Int),.int .i64 1]by unfold ptc;rw[hkd,hkm])
     have HKN:=Kh (show(pts n k).length≤14400 from Nat.le_trans (pts_length n k) (by have:n*n≤120*120:=Nat.mul_le_mul hn hn;omega))
     have HLE:=Kh (show ∀ W,Calls Tryz.prog 209 #[.int .i64 n,.int .i64 u,.int .i64 v] W fun e w'=>e=.returned (.bool (plst n k))∧∃ m,w'=W.drewN m from fun W=>hk▸c_least21 n u v W hlt hltv (by omega))
     have HKS:=Kh (show u*n+(v+1)=k+1 by omega)
     rw[hk]at HPT3
     clear hkn hkd hkm hk
     go_wp2_with fail
     refine(c_gcd18 u v w3 (by omega) (by omega) (by omega) (by omega)).mono ?_
     rintro e w4 ⟨rfl,m1,rfl⟩
     have hg1:Int.gcd (u:Int) (v:Int)=Nat.gcd u v:=rfl
     obtain⟨G,hG⟩:∃ G,Nat.gcd u v=G:=⟨_,rfl⟩
     have hGl:G≤1000:=by
      rw[← hG]
      rcases Nat.eq_zero_or_pos u with h|h
      ·subst h;rw[Nat.gcd_zero_left];omega
      ·exact Nat.le_trans (Nat.gcd_le_left _ h) (by omega)
     rw[hg1,hG]
     rw[hG]at HPO
     clear hg1 hG
     go_wp2_with fail
     refine(c_gcd18 G n _ (by omega) (by omega) (by omega) (by omega)).mono ?_
     rintro e w4 ⟨rfl,m2,rfl⟩
     have hg1:Int.gcd (G:Int) (n:Int)=Nat.gcd G n:=rfl
     rw[hg1,dr2]
     clear hg1
     cases hg:(Nat.gcd G n==1)with
     | false=>
      have hg2:(((Nat.gcd G n:Nat):Int)==1)=false:=by
       simp only[beq_eq_false_iff_ne]at hg
       simp;omega
      have HE:=Kh (show pts n (k+1)=pts n k by rw[HST.out,HPO.out,hg,Bool.false_and,if_neg (by decide)])
      have HPD:=Kh (HPT3.out.keep (below_drewN' (Below.refl _ w3) (m1+m2)))
      have HBD:=Kh (below_drewN' HB3.out (m1+m2))
      clear hg
      go_wp2
      go_roundw
      case rel=>exact⟨v+1,by omega,by go_num,by rw[HKS.out,HE.out];exact HPD.out,HBD.out⟩
      case measure=>simp[intOf];omega
     | true=>
      have hg2:(((Nat.gcd G n:Nat):Int)==1)=true:=by
       simp only[beq_iff_eq]at hg
       rw[hg];rfl
      have HPO2:=Kh (show pok n k=true by rw[HPO.out,hg])
      clear hg HPO
      go_wp2_with fail
      refine(HLE.out _).mono ?_
      rintro e w4 ⟨rfl,m3,rfl⟩
      rw[dr2]
      obtain⟨w5,hw5⟩:∃ w5,w3.drewN (m1+m2+m3)=w5:=⟨_,rfl⟩
      have HPD:=Kh (hw5▸HPT3.out.keep (below_drewN' (Below.refl _ w3) (m1+m2+m3)))
      have HBD:=Kh (hw5▸below_drewN' HB3.out (m1+m2+m3))
      rw[hw5]
      clear hw5 HPT3 HB3
      cases hl:plst n k with
      | false=>
       have HE:=Kh (show pts n (k+1)=pts n k by rw[HST.out,hl,Bool.and_false,if_neg (by decide)])
       clear hl
       go_wp2
       go_roundw
       case rel=>exact⟨v+1,by omega,by go_num,by rw[HKS.out,HE.out];exact HPD.out,HBD.out⟩
       case measure=>simp[intOf];omega
      | true=>
       have HE:=Kh (show pts n (k+1)=pts n k++[k]by rw[HST.out,hl,HPO2.out];rfl)
       have HKO:=Kh (show OwnK NotU32 w5 w.heap.size 177 3 u5 (pts n k).length ((pts n k).flatMap (ptc n))from HPD.out)
       clear hl
       go_wp2_with (at_builtin;refine wpl_app2 NotU32 rfl (.tmp 35) (.tmp 39) _ 177 rfl Tryz.underlying131 ptInfo rfl (by decide) w.heap.size (pts n k).length u5 ((pts n k).flatMap (ptc n)) [.int .i64 (u:Int),.int .i64 (v:Int),.int .i64 1] rfl HKO.out rfl rfl (by intro u hu;simp at hu;rcases hu with rfl|rfl|rfl <;> rfl) (by have:=HKN.out;omega) (by have:=HKN.out;omega) HBD.out.size (by intro u hu;simp at hu;rcases hu with rfl|rfl|rfl <;> exact fun _ h=>by cases h) (by intro u hu;simp[Value.cells]at hu;rcases hu with rfl|rfl|rfl <;> exact fun _ h=>by cases h) ?_;intro v9 w9 hown9 hgr9 hat9;have HO9:=Kh (show OwnPt n (pts n k++[k]) w9 w.heap.size v9 from OwnPt.push (by rw[HPC.out];exact hown9));have HB9:=Kh (own_below HBD.out HKO.out.1 hgr9 (Nat.le_refl _) HBD.out.size);clear hown9 hgr9 hat9)
       go_roundw
       case rel=>exact⟨v+1,by omega,by go_num,by rw[HKS.out,HE.out];exact HO9.out,HB9.out⟩
       case measure=>simp[intOf];omega
    ·obtain rfl:n=v:=by omega
     have HE:=Kh (show u*n+n=(u+1)*n by rw[Nat.add_mul,Nat.one_mul])
     go_wp2
     go_roundw
     case rel=>exact⟨u+1,by omega,by go_num,by rw[← HE.out];exact HPT3.out,HB3.out⟩
     case measure=>simp[intOf];omega
  ·obtain rfl:n=u:=by omega
   go_wp2
   (first|go_ret2|go_ret)
   exact⟨⟨_,rfl,HPT.out⟩,HB.out⟩
theorem c_Psi40 (n:Nat) (w:World) (h0:0<n) (hn:n≤120):
  Calls Tryz.prog 99 #[.int .i64 n] w fun e w'=>e=.returned (.int .i64 ((pts n (n*n)).length:Int))∧Below w.heap.size w w':=by
 go_enter Tryz.func99,Tryz.ntmps99
 go_wp2_with fail
 refine(c_List21 n w h0 hn).mono ?_
 rintro e w1 ⟨⟨v,rfl,hpt⟩,hb⟩
 obtain⟨p,c,rfl⟩:=own_slice hpt.1
 have HB:=Kh hb
 clear hpt hb
 go_wp2
 go_ret
 exact⟨rfl,HB.out⟩
theorem check_zero {N k D:Int} (h:Pl.check N k D=0):1≤N∧N≤120∧2≤k∧k≤24∧-120≤D∧D≤120:=by
 by_cases hr:N<1∨120<N∨k<2∨24<k∨D < -120∨120<D
 ·rw[check_range hr]at h;cases h
 ·omega
theorem c_Count40 (n wt:Nat) (D:Int) (w:World) (hck:Pl.check n ((wt:Int)+2) D=0):
  Calls Tryz.prog 54 #[.agg #[.int .i64 n,.int .i64 ((wt:Int)+2),.int .i64 D]] w fun e w'=>e=.returned (.tuple #[.int .i64 (((wt+1)*(pts n (n*n)).length:Nat):Int),.int .i64 0])∧Below w.heap.size w w':=by
 obtain⟨h1,h2,h3,h4,h5,h6⟩:=check_zero hck
 have HPS:=Kh (fun W=>c_Psi40 n W (by omega) (by omega))
 have hpl:(pts n (n*n)).length≤14400:=Nat.le_trans (pts_length n (n*n)) (by have:n*n≤120*120:=Nat.mul_le_mul (by omega) (by omega);omega)
 obtain⟨P,hP⟩:∃ P,(pts n (n*n)).length=P:=⟨_,rfl⟩
 rw[hP]at HPS hpl ⊢
 obtain⟨C,hC⟩:∃ C,(wt+1)*P=C:=⟨_,rfl⟩
 have hCl:C≤331200:=by rw[← hC];exact Nat.mul_le_mul (by omega:wt+1≤23) hpl
 obtain⟨W1,hW1⟩:∃ x,wt+1=x:=⟨_,rfl⟩
 have v0:IntKind.i64.wrap ((wt:Int)+2 - 1)=(W1:Nat):=by rw[show(wt:Int)+2 - 1=(W1:Nat)by omega];exact IntWalk.i64_in _ (by omega)
 have e1:(W1:Int)*(P:Int)=(C:Nat):=by rw[← hC,← hW1];push_cast;rfl
 have v1:IntKind.i64.wrap (C:Int)=(C:Nat):=IntWalk.i64_in _ (by omega)
 rw[hC]
 have HCK:=Kh hck
 clear hck hP hC hW1
 go_enter Tryz.func54,Tryz.ntmps54
 go_wp2_with fail
 obtain⟨w0,hw0,X0,hb0⟩:=bx1 w #[.int .i64 n,.int .i64 ((wt:Int)+2),.int .i64 D] 23
 rw[hw0]
 refine(c_Check31 n ((wt:Int)+2) D w0).mono ?_
 rintro e w1 ⟨rfl,hb1⟩
 rw[HCK.out]
 have HX1:=Kh (X0.below_ hb1 X0.lt)
 have HB1:=Kh (hb0.trans (hb1.mono hb0.size))
 obtain⟨gs,hgs⟩:∃ x,w.heap.size=x:=⟨_,rfl⟩
 rw[hgs]at HX1 ⊢
 have x0:=HX1.out.at_ 0 rfl
 have x1:=HX1.out.at_ 1 rfl
 have HGS:=Kh hgs
 clear hw0 X0 hb0 hb1 hgs
 have HS1:=Kh (show ∀ w4,Below w1.heap.size w1 w4→(w4.cell? ⟨gs,0,none⟩=some (.int .i64 (n:Int))∧w4.cell? ⟨gs,1,none⟩=some (.int .i64 ((wt:Int)+2)))from fun w4 hb=>⟨cell_next hb x0,cell_next hb x1⟩)
 have hS0:=HS1.out _ (Below.refl _ w1).drew
 have HK1:=Kh (show ∀ wb,Below w1.drew.heap.size w1.drew wb→Below w1.heap.size w1 wb from fun wb hb=>(Below.refl _ w1).drew.trans hb)
 go_upto_region 4 with(fail)
 go_region_held3 (fun w4=>w4.cell? ⟨gs,0,none⟩=some (.int .i64 (n:Int))∧w4.cell? ⟨gs,1,none⟩=some (.int .i64 ((wt:Int)+2)))
  (first|with_reducible exact hS0|with_reducible exact HS1.out _ hbN |(exfalso;assumption))
  (first
   |(go_at_call 99;with_reducible refine(HPS.out _).mono ?_;rintro e w5 ⟨rfl,hb5⟩;have hbN:Below w1.heap.size w1 w5:=HK1.out _ hb5))
 all_goals have HBN:=Kh hbN
 all_goals go_wp2
 all_goals (first|go_ret2|go_ret)
 all_goals exact⟨rfl,HB1.out.trans (HBN.out.mono HB1.out.size)⟩
theorem c_Count40_bad (N k D:Int) (w:World) (hck:Pl.check N k D≠0):
  Calls Tryz.prog 54 #[.agg #[.int .i64 N,.int .i64 k,.int .i64 D]] w fun e w'=>e=.returned (.tuple #[.int .i64 0,.int .i64 (Pl.check N k D)])∧Below w.heap.size w w':=by
 obtain⟨er,her⟩:∃ er,Pl.check N k D=er:=⟨_,rfl⟩
 have HER:=Kh her
 rw[her]at hck ⊢
 clear her
 go_enter Tryz.func54,Tryz.ntmps54
 go_wp2_with fail
 obtain⟨w0,hw0,X0,hb0⟩:=bx1 w #[.int .i64 N,.int .i64 k,.int .i64 D] 23
 rw[hw0]
 refine(c_Check31 N k D w0).mono ?_
 rintro e w1 ⟨rfl,hb1⟩
 have HB:=Kh (hb0.trans (hb1.mono hb0.size))
 rw[HER.out]
 have hne:(er != 0)=true:=by simpa using hck
 clear hw0 X0 hb0 hb1
 go_wp2
 (first|go_ret2|go_ret)
 exact⟨rfl,HB.out⟩
theorem c_Large (n wt:Nat) (D:Int) (w:World) (hck:Pl.check n ((wt:Int)+2) D=0):
  Calls Tryz.prog 18 #[.agg #[.int .i64 n,.int .i64 ((wt:Int)+2),.int .i64 D]] w fun e w'=>e=.returned (.bool (decide (72<(wt+1)*(pts n (n*n)).length)))∧Below w.heap.size w w':=by
 have HCO:=Kh (fun W=>c_Count40 n wt D W hck)
 obtain⟨C,hC⟩:∃ C,(wt+1)*(pts n (n*n)).length=C:=⟨_,rfl⟩
 rw[hC]at HCO ⊢
 clear hck hC
 go_enter Tryz.func18,Tryz.ntmps18
 go_wp2_with fail
 have hb0:Below w.heap.size w (w.alloc (.cells #[.int .i64 n,.int .i64 ((wt:Int)+2),.int .i64 D] 23)):=(Below.refl _ _).alloc (Nat.le_refl _) _
 refine(HCO.out _).mono ?_
 rintro e w1 ⟨rfl,hb1⟩
 have HB:=Kh (hb0.trans (hb1.mono hb0.size))
 clear hb0 hb1
 by_cases h:72<C
 ·have h2:(72:Int)<(C:Int):=by omega
  go_wp2
  go_ret
  exact⟨ret_b (by simp[h]),HB.out⟩
 ·have h2:¬ ((72:Int)<(C:Int)):=by omega
  go_wp2
  go_ret
  exact⟨ret_b (by simp;omega),HB.out⟩
theorem c_Large_bad (N k D:Int) (w:World) (hck:Pl.check N k D≠0):
  Calls Tryz.prog 18 #[.agg #[.int .i64 N,.int .i64 k,.int .i64 D]] w fun e w'=>e=.returned (.bool false)∧Below w.heap.size w w':=by
 have HCO:=Kh (fun W=>c_Count40_bad N k D W hck)
 have hne:(Pl.check N k D==0)=false:=by simpa using hck
 clear hck
 go_enter Tryz.func18,Tryz.ntmps18
 go_wp2_with fail
 have hb0:Below w.heap.size w (w.alloc (.cells #[.int .i64 N,.int .i64 k,.int .i64 D] 23)):=(Below.refl _ _).alloc (Nat.le_refl _) _
 refine(HCO.out _).mono ?_
 rintro e w1 ⟨rfl,hb1⟩
 have HB:=Kh (hb0.trans (hb1.mono hb0.size))
 clear hb0 hb1
 go_wp2
 go_ret
 exact⟨rfl,HB.out⟩
end Go.Proofs.YthikonjlgljikaaGreatDoor
namespace Go.Proofs.YthikonjlgljikaaGreatDoor
open Go.RowKit Eli
theorem kro3 (D:Int) (l:Nat):Pl.kroP D l=0∨Pl.kroP D l=1∨Pl.kroP D l=-1:=by
 have h:-1≤Pl.kroP D l∧Pl.kroP D l≤1:=by
  unfold Pl.kroP
  dsimp only
  split
  ·omega
  ·have h:=jac_pm (l / 2 ^ Lib.ctz 64 l+1) (D % (l / 2 ^ Lib.ctz 64 l:Nat)).toNat (l / 2 ^ Lib.ctz 64 l) 1 (.inl rfl)
   split <;> omega
 omega
def relF (n wt:Nat) (D:Int) (p:Nat):Int:=relOf n wt D (p / ((wt+1)*(pts n (n*n)).length)) (p % ((wt+1)*(pts n (n*n)).length))
def cntF (n wt:Nat):Nat:=(wt+1)*(pts n (n*n)).length
def elF (n wt:Nat) (D:Int):Nat→List (Nat×Rat):=elim (cntF n wt) (rowF (cntF n wt) (relF n wt D)) (2*cntF n wt)
theorem relF_small {n wt:Nat} {D:Int} (hw:wt≤22) (p:Nat):(relF n wt D p).natAbs≤16777216:=relE_small (plAll_ok (kro3 D) n) hw _ _
theorem elF_good {n wt:Nat} {D:Int} (hw:wt≤22):Eli.Good (cntF n wt) 16777216 (elF n wt D):=Eli.Good.elim (by omega) (rowF_small (relF_small hw)) (rowF_zero _ _) _
theorem pts_zero {n:Nat} (hn:0<n):0<(pts n (n*n)).length:=by
 have key:∀ a,a<n*n→pok n a=true→plst n a=true→0<(pts n (n*n)).length:=by
  intro a h1 h2 h3
  refine List.length_pos_of_mem (a:=a) ?_
  rw[pts_filter hn _ (Nat.le_refl _),List.mem_filter]
  exact⟨List.mem_range.2 h1,by rw[h2,h3];rfl⟩
 rcases Nat.eq_or_lt_of_le (show 1≤n from hn)with rfl|h
 ·exact key 0 (by omega) (by decide) (by decide)
 ·have h1:1<n*n:=Nat.lt_of_lt_of_le h (Nat.le_mul_of_pos_left n hn)
  have hd:1 / n=0:=Nat.div_eq_of_lt h
  have hm:1 % n=1:=Nat.mod_eq_of_lt h
  refine key 1 h1 ?_ ?_
  ·unfold pok;rw[hd,hm];simp
  ·rw[plst_iff]
   intro s h2 h3 h4
   have h5:s≠n:=fun e=>by
    subst e
    unfold pun at h4
    simp only[beq_iff_eq,Nat.gcd_self]at h4
    omega
   unfold pmul
   rw[hd,hm,Nat.mul_zero,Nat.zero_mod,Nat.zero_mul,Nat.zero_add,Nat.mul_one,Nat.mod_eq_of_lt (by omega)]
   exact h2
theorem cntF_pos {n wt:Nat} (hn:0<n):0<cntF n wt:=Nat.mul_pos (by omega) (pts_zero hn)
theorem c_New (n wt:Nat) (D:Int) (w:World) (hT:Tab w) (hck:Pl.check n ((wt:Int)+2) D=0) (hC:cntF n wt≤72):
  Calls Tryz.prog 19 #[.agg #[.int .i64 n,.int .i64 ((wt:Int)+2),.int .i64 D]] w fun e w'=>(∃ M,e=.returned (.tuple #[.pointer (some ⟨M,0,none⟩),.int .i64 0])∧w.heap.size≤M∧ModAt w' M w'.heap.size n ((wt:Int)+2) D (frs (elF n wt D) (cntF n wt)) (cntF n wt) (crd (elF n wt D) (cntF n wt) (cntF n wt)))∧Below w.heap.size w w':=by
 obtain⟨h1,h2,h3,h4,h5,h6⟩:=check_zero hck
 exact c_New_ok n ((wt:Int)+2) D (2*cntF n wt) (cntF n wt) (relF n wt D) w (fun w1 hb=>c_Relations_ok n wt D (pts n (n*n)) (cntF n wt) w1 (hT.below hb) (by omega) (by omega) (by omega) (by omega) (by omega) hck (kro3 D) rfl rfl (cntF_pos (by omega)) hC) (by omega) (cntF_pos (by omega)) hC (relF_small (by omega))
theorem coord_size {n wt:Nat} {D:Int} (hw:wt≤22) (hC:cntF n wt≤72) {j f:Nat} (hj:j<cntF n wt) (hf:f∈frs (elF n wt D) (cntF n wt)):hq (crd (elF n wt D) (cntF n wt) (cntF n wt) j f)≤80:=by
 obtain⟨h1,h2⟩:=frs_mem.1 hf
 exact Nat.le_trans (crd_size (by omega) (elF_good hw) (by omega) (Nat.le_refl _) hj h1 h2) (top_72 hC (Nat.le_refl _))
theorem aw_frs:frs (elF 1 2 1) (cntF 1 2)=[2]:=by decide +kernel
theorem aw_crd:crd (elF 1 2 1) (cntF 1 2) (cntF 1 2) 0 2=-1:=by decide +kernel
theorem aw_cnt:cntF 1 2=3:=by decide +kernel
theorem aw_check:Pl.check ((1:Nat):Int) (((2:Nat):Int)+2) 1=0:=by decide +kernel
theorem c_awake (w:World) (hT:Tab w):
  Calls Tryz.prog 17 #[] w fun e w'=>e=.returned (.bool true)∧Below w.heap.size w w':=by
 have HNW:=Kh (show ∀ W,Below w.heap.size w W→Calls Tryz.prog 19 #[.agg #[.int .i64 1,.int .i64 4,.int .i64 1]] W fun e w'=>(∃ M,e=.returned (.tuple #[.pointer (some ⟨M,0,none⟩),.int .i64 0])∧W.heap.size≤M∧ModAt w' M w'.heap.size 1 4 1 [2] 3 (crd (elF 1 2 1) 3 3))∧Below W.heap.size W w' from fun W hb=>by
  have h:=c_New 1 2 1 W (hT.below hb) aw_check (by rw[aw_cnt];omega)
  rw[aw_frs,aw_cnt]at h
  exact h)
 obtain⟨X,hX⟩:∃ X,crd (elF 1 2 1) 3 3=X:=⟨_,rfl⟩
 have HX:=Kh (show X 0 2=-1 by have h:=aw_crd;rw[aw_cnt,hX]at h;exact h)
 rw[hX]at HNW
 clear hT hX
 go_enter Tryz.func17,Tryz.ntmps17
 go_wp2_with fail
 refine(HNW.out w (Below.refl _ w)).mono ?_
 rintro e w1 ⟨⟨M,rfl,hM,hmod⟩,hb1⟩
 have HM1:=Kh hmod
 have HB1:=Kh hb1
 clear hM hmod hb1 HNW
 go_wp2_with fail
 refine(c_Reduce M w1.heap.size 1 4 1 [2] 3 X 0 w1 HM1.out (by omega) (by decide) (fun f hf=>by
  simp only[List.mem_singleton]at hf
  subst hf
  rw[HX.out];decide)).mono ?_
 rintro e w2 ⟨⟨g,rfl,hg,hrow⟩,hb2⟩
 have HR2:=Kh (show QRow (fun _=>IsQ (-1)) w2 g 1 1 from QRow.congr hrow (fun j hj=>by
  have hj':j<1:=hj
  obtain rfl:j=0:=by omega
  show IsQ (X 0 2)=_
  rw[HX.out]))
 have HM2:=Kh (HM1.out.keep (Nat.le_refl _) hb2)
 have HB2:=bt HB1 hb2
 have HS2:=Kh hb2.size
 clear hg hrow hb2 HM1 HB1
 go_wp2_with fail
 refine(c_Dim M w1.heap.size 1 4 1 [2] 3 X w2 HM2.out).mono ?_
 rintro e w3 ⟨rfl,hw⟩
 rw[hw]
 clear hw
 go_wp2_with fail
 refine(c_Free M w1.heap.size 1 4 1 [2] 3 X w2 HM2.out (by decide)).mono ?_
 rintro e w3 ⟨⟨v,rfl,hown⟩,hb3⟩
 obtain⟨p,c,rfl⟩:=own_slice hown.1
 have HO3:=Kh hown
 have HR3:=Kh (QRow.keep (fun _=>IsQ.solid _) HR2.out hb3)
 have HB3:=bt HB2 hb3
 clear hown hb3 HR2 HB2 HM2 HS2
 go_wp2_with fail
 obtain⟨w4,hw4,X4,hb4⟩:=bx1 w3 #[.int .i64 2] 3
 rw[hw4]
 have HN1:=Kh ((HO3.out.keep hb4).nl)
 have HN2:=Kh (show NL [2] w4 w4.heap.size (.slice (some ⟨w3.heap.size,0,none⟩) 1 1)from .inr ⟨w3.heap.size,1,rfl,Nat.le_refl _,by omega,X4.lt,fun j x hj=>by
  rcases j with _|j
  ·injection hj with hj;subst hj;exact X4.at_ 0 rfl
  ·cases hj⟩)
 have HR4:=Kh (QRow.keep (fun _=>IsQ.solid _) HR3.out hb4)
 have HB4:=bt HB3 hb4
 clear hw4 X4 hb4 HO3 HR3 HB3
 refine(c_Ints_eq _ _ [2] w4 HN1.out HN2.out).mono ?_
 rintro e w5 ⟨rfl,m,rfl⟩
 have hb5:Below w4.heap.size w4 (w4.drewN m):=below_drewN' (Below.refl _ _) m
 generalize w4.drewN m=w5 at hb5 ⊢
 have HR5:=Kh (QRow.keep (fun _=>IsQ.solid _) HR4.out hb5)
 have HB5:=bt HB4 hb5
 clear hb5 HN1 HN2 HR4 HB4
 go_wp2_with fail
 obtain⟨w6,hw6,X6,hb6⟩:=bx1 w5 #[.int .i64 (-1)] 3
 rw[hw6]
 have HR6:=Kh (QRow.keep (fun _=>IsQ.solid _) HR5.out hb6)
 have HB6:=bt HB5 hb6
 refine(c_Qs w5.heap.size 1 1 (fun _=>-1) w6 X6.lt (fun j hj=>by
  obtain rfl:j=0:=by omega
  exact X6.at_ 0 rfl) (fun j _=>by omega) (by omega)).mono ?_
 rintro e w7 ⟨⟨v7,rfl,hq7⟩,hb7⟩
 have HR7:=Kh ((QRow.keep (fun _=>IsQ.solid _) HR6.out hb7).ql 1)
 have HQ7:=Kh (show QL (fun _=>IsQ (-1)) w7 v7 1 from hq7.ql)
 have HB7:=bt HB6 hb7
 clear hw6 X6 hb6 hq7 hb7 HR5 HB5 HR6 HB6
 go_wp2_with fail
 refine(c_SameRats_eq _ _ 1 (fun _=>-1) w7 HR7.out HQ7.out (by omega) (fun j _=>by decide)).mono ?_
 rintro e w8 ⟨rfl,hb8⟩
 have HB8:=bt HB7 hb8
 clear hb8 HR7 HQ7 HB7
 go_wp2
 go_ret
 exact⟨rfl,HB8.out⟩
theorem c_Relations_bad (N k D:Int) (w:World) (hck:Pl.check N k D≠0):
  Calls Tryz.prog 33 #[.agg #[.int .i64 N,.int .i64 k,.int .i64 D]] w fun e w'=>e=.returned (.tuple #[.agg #[.int .i64 0,.int .i64 0,.slice none 0 0],.int .i64 (Pl.check N k D)])∧Below w.heap.size w w':=by
 have HEN:=Kh (fun W=>c_enter_bad N k D W hck)
 obtain⟨er,her⟩:∃ er,Pl.check N k D=er:=⟨_,rfl⟩
 rw[her]at hck HEN ⊢
 have hne:(er != 0)=true:=by simpa using hck
 clear her hck
 go_enter Tryz.func33,Tryz.ntmps33
 go_wp2_with fail
 obtain⟨w0,hw0,X0,X1,hb0⟩:=bx2 w #[.int .i64 N,.int .i64 k,.int .i64 D] 23 #[.int .i64 0,.int .i64 0,.slice none 0 0] 76
 rw[hw0]
 refine(HEN.out w0).mono ?_
 rintro e w1 ⟨rfl,hb1⟩
 have HX1:=Kh (X1.below_ hb1 X1.lt)
 have HB1:=Kh (hb0.trans (hb1.mono hb0.size))
 obtain⟨gr,hgr⟩:∃ x,w.heap.size+1=x:=⟨_,rfl⟩
 have HGR:=Kh hgr
 rw[hgr]at HX1 ⊢
 have r0:=HX1.out.at_ 0 rfl
 have r1:=HX1.out.at_ 1 rfl
 have r2:=HX1.out.at_ 2 rfl
 have f0:=HX1.out.free_ 0
 have f1:=HX1.out.free_ 1
 have f2:=HX1.out.free_ 2
 have HE3:=Kh (put3_at (w:=w1) (R:=gr) (v0:=.int .i64 0) (v1:=.int .i64 0) (v2:=.slice none 0 0) (by rw[r0];rfl) (by rw[r1];rfl) (by rw[r2];rfl))
 clear hw0 X0 X1 hb0 hb1 hgr HEN
 go_wp2
 have e0:=HE3.out.1
 have e1:=HE3.out.2.1
 have e2:=HE3.out.2.2
 try simp only[Exit.inBlock,Exit.then]
 refine bodyPost_ret (by simp[results,Tryz.results33,go_sem,e0,e1,e2];try rfl) rfl ?_
 exact⟨rfl,((HB1.out.setCell (p:=⟨gr,0,none⟩) (by have:=HGR.out;show w.heap.size≤gr;omega) _).setCell (p:=⟨gr,1,none⟩) (by have:=HGR.out;show w.heap.size≤gr;omega) _).setCell (p:=⟨gr,2,none⟩) (by have:=HGR.out;show w.heap.size≤gr;omega) _⟩
theorem c_New_check (N k D:Int) (w:World) (hck:Pl.check N k D≠0):
  Calls Tryz.prog 19 #[.agg #[.int .i64 N,.int .i64 k,.int .i64 D]] w fun e w'=>e=.returned (.tuple #[.pointer none,.int .i64 (Pl.check N k D)])∧Below w.heap.size w w':=
 c_New_bad N k D (Pl.check N k D) w (fun w1 _=>(c_Relations_bad N k D w1 hck).mono (fun _ _ h=>⟨⟨0,0,h.1⟩,h.2⟩)) hck
theorem QRow.cellOf {F:Nat→FP} {w:World} {g N:Nat} (h:QRow F w g N N) {i:Nat} (hi:i<N*4):w.cell? ⟨g,i,none⟩=some (cellOf w ⟨g,i,none⟩):=by
 obtain⟨u,hu⟩:=Option.isSome_iff_exists.1 (h.has i hi)
 rw[hu,cellOf_eq hu]
theorem QRow.shape {F:Nat→FP} {w:World} {g N:Nat} (h:QRow F w g N N) {u:Value} (hu:u∈rowCells w g (N*4)):(∃ s,u=.bool s)∨∃ p n c,u=.slice p n c:=by
 obtain⟨i,hj⟩:=List.getElem?_of_mem hu
 have hi:=rowCells_lt hj
 rw[rowCells_get hi]at hj
 injection hj with hj
 subst hj
 obtain⟨s,p,n,c,t,q,m,d,e0,e1,e2,e3,_⟩:=h.val (i / 4) (by omega)
 rcases(by omega:i % 4=0∨i % 4=1∨i % 4=2∨i % 4=3)with h4|h4|h4|h4
 ·rw[show i / 4*4=i by omega]at e0
  exact .inl ⟨s,cellOf_eq e0⟩
 ·rw[show i / 4*4+1=i by omega]at e1
  exact .inr ⟨p,n,c,cellOf_eq e1⟩
 ·rw[show i / 4*4+2=i by omega]at e2
  exact .inl ⟨t,cellOf_eq e2⟩
 ·rw[show i / 4*4+3=i by omega]at e3
  exact .inr ⟨q,m,d,cellOf_eq e3⟩
theorem QRow.one {F:Nat→FP} {w:World} {g N:Nat} (h:QRow F w g N N):∀ u∈rowCells w g (N*4),u.oneCell'=true:=by
 intro u hu
 rcases h.shape hu with⟨s,rfl⟩ |⟨p,n,c,rfl⟩ <;> rfl
theorem QRow.ni {F:Nat→FP} {w:World} {g N:Nat} (h:QRow F w g N N):∀ u∈rowCells w g (N*4),NotInt u:=by
 intro u hu
 rcases h.shape hu with⟨s,rfl⟩ |⟨p,n,c,rfl⟩
 ·exact NotInt.bool _
 ·exact NotInt.slice _ _ _
theorem QRow.cells {F:Nat→FP} {w:World} {g N:Nat} (h:QRow F w g N N):∀ (j:Nat) (u:Value),(rowCells w g (N*4))[j]?=some u→w.cell? ⟨g,j,none⟩=some u:=by
 intro j u hj
 have hl:=rowCells_lt hj
 rw[rowCells_get hl]at hj
 rw[h.cellOf hl,hj]
theorem OwnQ.more {F R:Nat→FP} (hF:∀ j,Solid (F j)) {W w':World} {B n m g:Nat} {v v':Value} {xs:List Value} (h1:OwnK NotInt W B 35 4 v n xs) (h2:∀ j,j<n→QX (F j) W xs (j*4))
  (hr:QRow R W g m m) (h3:OwnK NotInt w' B 35 4 v' (n+m) (xs++rowCells W g (m*4))) (hg:W.grownBy w' v.ownBlock) (e2:∀ j,j<m→F (n+j)=R j):OwnQ F w' B v' (n+m):=by
 have h32:=I32.grown (K:=NotInt) (fun x=>not_int32 x) h1.2 hg
 refine⟨_,h3,fun j hj=>?_⟩
 by_cases hjn:j<n
 ·exact((h2 j hjn).i32 (hF j) h32).app
 ·obtain⟨k,rfl⟩:∃ k,j=n+k:=⟨j - n,by omega⟩
  have hk:k<m:=by omega
  have hl:xs.length=n*4:=h1.1.1
  obtain⟨s,p,c,d,t,q,e,f,c0,c1,c2,c3,hz⟩:=hr.val k hk
  rw[← e2 k hk]at hz
  refine⟨s,p,c,d,t,q,e,f,?_,?_,?_,?_,hF _ _ _ _ _ _ _ _ _ _ _ h32 hz⟩
  ·rw[List.getElem?_append_right (by omega),hl,show(n+k)*4 - n*4=k*4 by omega,rowCells_get (by omega),cellOf_eq c0]
  ·rw[List.getElem?_append_right (by omega),hl,show(n+k)*4+1 - n*4=k*4+1 by omega,rowCells_get (by omega),cellOf_eq c1]
  ·rw[List.getElem?_append_right (by omega),hl,show(n+k)*4+2 - n*4=k*4+2 by omega,rowCells_get (by omega),cellOf_eq c2]
  ·rw[List.getElem?_append_right (by omega),hl,show(n+k)*4+3 - n*4=k*4+3 by omega,rowCells_get (by omega),cellOf_eq c3]
structure MatAt (F:Nat→FP) (w:World) (go B R C m:Nat):Prop where
 lt:go<B
 hB:B≤w.heap.size
 c0:w.cell? ⟨go,0,none⟩=some (.int .i64 (R:Int))
 c1:w.cell? ⟨go,1,none⟩=some (.int .i64 (C:Int))
 c2:∃ p c,w.cell? ⟨go,2,none⟩=some (.slice p m c)∧OwnQ F w B (.slice p m c) m
 fr:w.frozen? ⟨go,2,none⟩=false
 stk:Stk NotU32 w go
theorem MatAt.keep {F:Nat→FP} (hF:∀ j,Solid (F j)) {w w':World} {go B R C m:Nat} (h:MatAt F w go B R C m) (hb:Below w.heap.size w w'):MatAt F w' go B R C m:=by
 obtain⟨p,c,e2,h2⟩:=h.c2
 exact⟨h.lt,Nat.le_trans h.hB hb.size,cell_next hb h.c0,cell_next hb h.c1,⟨p,c,cell_next hb e2,h2.keep hF hb⟩,frozen_keep hb (by rw[e2];rfl) h.fr,h.stk.next hb⟩
theorem OwnQ.box {F:Nat→FP} (hF:∀ j,Solid (F j)) {w w':World} {B n G:Nat} {v:Value} (h:OwnQ F w B v n) (h32:I32 w w') (hg:w.grownBy w' (some G)) (hG:G<B):OwnQ F w' B v n:=by
 obtain⟨xs,h1,h2⟩:=h
 have hne:∀ g,v.ownBlock=some g→some g≠some G:=fun g e e2=>by
  have:=own_ge h1.1 e.symm
  injection e2 with e2;omega
 refine⟨xs,⟨h1.1.kept hg ?_,fun g e=>?_⟩,fun j hj=>(h2 j hj).i32 (hF j) h32⟩
 ·cases hv:v.ownBlock with
  | none=>exact .inl rfl
  | some g=>exact .inr (hne g hv)
 ·have hs:=h1.2 g e
  have hb:=hg.block g hs.1 (hne g e)
  exact⟨Nat.lt_of_lt_of_le hs.1 hg.size,fun i u hu=>hs.2 i u ((World.cell?_of_block (a:=⟨g,i,none⟩) hb).symm.trans hu)⟩
theorem MatAt.more {F:Nat→FP} (hF:∀ j,Solid (F j)) {W w':World} {go B R C m n:Nat} {xs:List Value} {p:Option Addr} {c:Nat} {p':Option Addr} {c':Nat} (h:MatAt F W go B R C m) (hv:W.cell? ⟨go,2,none⟩=some (.slice p m c)) (h1:W.ownsRow B 35 4 (.slice p m c) m xs) (hO:OwnQ F w' B (.slice p' n c') n) (hg:W.grownBy w' (Value.slice p m c).ownBlock):
  w'.cell? ⟨go,2,none⟩=some (.slice p m c)∧w'.frozen? ⟨go,2,none⟩=false∧MatAt F (w'.setCell ⟨go,2,none⟩ (.slice p' n c')) go B R C n:=by
 have hne:some go≠(Value.slice p m c).ownBlock:=fun e=>by
  have:=own_ge h1 e
  have:=h.lt
  omega
 have hgo:go<W.heap.size:=Nat.lt_of_lt_of_le h.lt h.hB
 have hblk:=hg.block go hgo (fun e=>hne e)
 have d2:w'.cell? ⟨go,2,none⟩=some (.slice p m c):=(World.cell?_of_block (a:=⟨go,2,none⟩) hblk).trans hv
 have df:w'.frozen? ⟨go,2,none⟩=false:=(World.frozen?_of_block (a:=⟨go,2,none⟩) hblk).trans h.fr
 have hst:Stk NotU32 w' go:=⟨Nat.lt_of_lt_of_le hgo hg.size,fun i u hu=>h.stk.2 i u ((World.cell?_of_block (a:=⟨go,i,none⟩) hblk).symm.trans hu)⟩
 refine⟨d2,df,h.lt,by simpa using Nat.le_trans h.hB hg.size,?_,?_,⟨p',c',World.cell?_setCell_same' _ _ _ (by rw[d2];rfl),hO.box hF (I32.putU hst 2 _) (but_put w' go 2 _) h.lt⟩,frozen_set df,stk_put hst _ _ (fun _ h=>by cases h)⟩
 ·rw[World.cell?_setCell_other _ _ _ _ (by simp)];exact(World.cell?_of_block (a:=⟨go,0,none⟩) hblk).trans h.c0
 ·rw[World.cell?_setCell_other _ _ _ _ (by simp)];exact(World.cell?_of_block (a:=⟨go,1,none⟩) hblk).trans h.c1
end Go.Proofs.YthikonjlgljikaaGreatDoor
