/- Contract of halfplaneref21.List: the list of P1(Z/n), as the reference counts it. -/
import Derived.Test.YtijgdhijdfgpfaaGreatDoorZ28
import Derived.Test.YtijgdhijdfgpfaaGreatDoorZ02
import Derived.Test.YtijgdhijdfgpfaaGreatDoorZ05
import Derived.Test.YtijgdhijdfgpfaaGreatDoorZ13
import Derived.Test.YtijgdhijdfgpfaaGreatDoorZ30
import Derived.Test.YtijgdhijdfgpfaaGreatDoorZ34
import Derived.Test.YtijgdhijdfgpfaaGreatDoorZ18
import Derived.Test.YtijgdhijdfgpfaaGreatDoorZ22
set_option linter.unusedSimpArgs false
set_option maxRecDepth 100000
set_option maxHeartbeats 8000000
namespace Go.Proofs.YtijgdhijdfgpfaaGreatDoor
open Go.RowKit
def lbad (n u v s:Nat):Bool:=(Nat.gcd s n==1)&&(decide (s*u % n<u)||(decide (s*u % n=u)&&decide (s*v % n<v)))
theorem lex_le {n u v A B:Nat} (hv:v<n) (hB:B<n):u*n+v≤A*n+B↔¬ (A<u∨A=u∧B<v):=by
 constructor
 ·rintro h (h1 |⟨rfl,h1⟩)
  ·have h2:(A+1)*n≤u*n:=Nat.mul_le_mul_right _ h1
   rw[Nat.add_mul,Nat.one_mul]at h2
   omega
  ·omega
 ·intro h
  rcases Nat.lt_trichotomy A u with h1|h1|h1
  ·exact absurd (.inl h1) h
  ·subst h1
   have:v≤B:=by
    rcases Nat.lt_or_ge B v with h2|h2
    ·exact absurd (.inr ⟨rfl,h2⟩) h
    ·exact h2
   omega
  ·have h2:(u+1)*n≤A*n:=Nat.mul_le_mul_right _ h1
   rw[Nat.add_mul,Nat.one_mul]at h2
   omega
theorem lbad_plst {n u v:Nat} (hu:u<n) (hv:v<n):(∀ s,2≤s→s<n→lbad n u v s=false)↔plst n (u*n+v)=true:=by
 have hn:0<n:=by omega
 have hd:(u*n+v) / n=u:=by rw[Nat.mul_comm,Nat.mul_add_div hn,Nat.div_eq_of_lt hv,Nat.add_zero]
 have hm:(u*n+v) % n=v:=by rw[Nat.mul_comm,Nat.mul_add_mod,Nat.mod_eq_of_lt hv]
 have hp:∀ s,pmul n s (u*n+v)=s*u % n*n+s*v % n:=fun s=>by unfold pmul;rw[hd,hm]
 have hlt:u*n+v<n*n:=by
  have:(u+1)*n≤n*n:=Nat.mul_le_mul_right _ hu
  rw[Nat.add_mul,Nat.one_mul]at this
  omega
 rw[plst_iff]
 constructor
 ·intro h s h1 h2 h3
  rcases Nat.eq_or_lt_of_le h1 with rfl|h4
  ·rw[pmul_one hlt];exact Nat.le_refl _
  ·rcases Nat.eq_or_lt_of_le h2 with rfl|h5
   ·exfalso
    unfold pun at h3
    simp only[beq_iff_eq,Nat.gcd_self]at h3
    omega
   ·have h6:=h s h4 h5
    unfold lbad at h6
    unfold pun at h3
    rw[h3,Bool.true_and]at h6
    rw[hp,lex_le hv (Nat.mod_lt _ hn)]
    intro h7
    have h8:(decide (s*u % n<u)||(decide (s*u % n=u)&&decide (s*v % n<v)))=true:=by
     rcases h7 with h7 |⟨h7,h8⟩
     ·simp[h7]
     ·simp[h7,h8]
    rw[h8]at h6
    cases h6
 ·intro h s h1 h2
  unfold lbad
  cases hg:(Nat.gcd s n==1)with
  | false=>rfl
  | true=>
   have h3:=h s (by omega) (by omega) hg
   rw[hp,lex_le hv (Nat.mod_lt _ hn)]at h3
   rw[Bool.true_and]
   cases hb:(decide (s*u % n<u)||(decide (s*u % n=u)&&decide (s*v % n<v)))with
   | false=>rfl
   | true=>
    exfalso
    apply h3
    simp only[Bool.or_eq_true,Bool.and_eq_true,decide_eq_true_eq]at hb
    exact hb
theorem pts_step {n k:Nat} (hn:0<n) (hk:k<n*n):pts n (k+1)=if pok n k&&plst n k then pts n k++[k]else pts n k:=by
 rw[pts_filter hn (k+1) hk,pts_filter hn k (by omega),List.range_succ,List.filter_append]
 cases hc:(pok n k&&plst n k)with
 | true=>rw[if_pos rfl];simp[hc]
 | false=>rw[if_neg (by decide)];simp[hc]
theorem c_least21 (n u v:Nat) (w:World) (hu:u<n) (hv:v<n) (hn:n≤1000):
  Calls Tryz.prog 143 #[.int .i64 n,.int .i64 u,.int .i64 v] w fun e w'=>e=.returned (.bool (plst n (u*n+v)))∧∃ m,w'=w.drewN m:=by
 have HPL:=Kh (lbad_plst hu hv)
 go_enter Tryz.func143,Tryz.ntmps143
 go_wp2
 go_loopw [7] (fun x wr=>∃ s:Nat,2≤s∧s≤n+2∧x=.int .i64 s∧(∀ t,2≤t→t<s→lbad n u v t=false)∧∃ m,wr=w.drewN m) (fun x _=>n+2 - (intOf x).toNat)
 case atStart=>exact⟨2,Nat.le_refl _,by omega,rfl,fun t h1 h2=>by omega,0,rfl⟩
 case round=>
  obtain⟨s,hs,hs2,rfl,hl,m,rfl⟩:=hrel
  have HL:=Kh hl
  clear hl
  by_cases hlt:s<n
  ·have hsi:(s:Int)<(n:Int):=by omega
   obtain⟨P,hP⟩:∃ x,s*u=x:=⟨_,rfl⟩
   obtain⟨Q,hQ⟩:∃ x,s*v=x:=⟨_,rfl⟩
   obtain⟨A,hA⟩:∃ x,P % n=x:=⟨_,rfl⟩
   obtain⟨B,hB⟩:∃ x,Q % n=x:=⟨_,rfl⟩
   have hPl:P≤1000000:=by rw[← hP];exact Nat.mul_le_mul (by omega:s≤1000) (by omega:u≤1000)
   have hQl:Q≤1000000:=by rw[← hQ];exact Nat.mul_le_mul (by omega:s≤1000) (by omega:v≤1000)
   have e1:(s:Int)*(u:Int)=(P:Nat):=by rw[← hP];push_cast;rfl
   have e2:(s:Int)*(v:Int)=(Q:Nat):=by rw[← hQ];push_cast;rfl
   have e3:Int.tmod (P:Int) (n:Int)=(A:Nat):=by rw[Int.tmod_eq_emod_of_nonneg (by omega),← hA];rfl
   have e4:Int.tmod (Q:Int) (n:Int)=(B:Nat):=by rw[Int.tmod_eq_emod_of_nonneg (by omega),← hB];rfl
   have e5:((n:Int)==0)=false:=by simp;omega
   have hAn:A<n:=by rw[← hA];exact Nat.mod_lt _ (by omega)
   have hBn:B<n:=by rw[← hB];exact Nat.mod_lt _ (by omega)
   have v1:IntKind.i64.wrap (P:Int)=(P:Nat):=IntWalk.i64_in _ (by omega)
   have v2:IntKind.i64.wrap (Q:Int)=(Q:Nat):=IntWalk.i64_in _ (by omega)
   have v3:IntKind.i64.wrap (A:Int)=(A:Nat):=IntWalk.i64_in _ (by omega)
   have v4:IntKind.i64.wrap (B:Int)=(B:Nat):=IntWalk.i64_in _ (by omega)
   have HLB:=Kh (show lbad n u v s=((Nat.gcd s n==1)&&(decide (A<u)||(decide (A=u)&&decide (B<v))))by unfold lbad;rw[hP,hQ,hA,hB])
   have HPL2:=Kh (show lbad n u v s=true→plst n (u*n+v)=false from fun h=>by
    cases hp:plst n (u*n+v)with
    | false=>rfl
    | true=>have:=HPL.out.2 hp s hs hlt;rw[h]at this;cases this)
   have HNX:=Kh (show lbad n u v s=false→∀ t,2≤t→t<s+1→lbad n u v t=false from fun h t h1 h2=>by
    rcases Nat.eq_or_lt_of_le (Nat.lt_succ_iff.1 h2)with rfl|h3
    ·exact h
    ·exact HL.out t h1 h3)
   clear hP hQ hA hB
   go_wp2_with fail
   refine(c_gcd18 s n (w.drewN m) (by omega) (by omega) (by omega) (by omega)).mono ?_
   rintro e w1 ⟨rfl,m1,rfl⟩
   have hg1:Int.gcd (s:Int) (n:Int)=Nat.gcd s n:=rfl
   rw[hg1,dr2]
   by_cases hg:Nat.gcd s n=1
   ·have hg2:(((Nat.gcd s n:Nat):Int)==1)=true:=by rw[hg];rfl
    have hg3:(Nat.gcd s n==1)=true:=by rw[hg];rfl
    rw[hg3,Bool.true_and]at HLB
    clear hg hg3 hg1
    rcases Nat.lt_trichotomy A u with h1|h1|h1
    ·have h2:(A:Int)<(u:Int):=by omega
     have HB:=Kh (HPL2.out (by rw[HLB.out];simp[h1]))
     go_wp2
     go_ret
     exact⟨ret_b (by rw[HB.out]),_,rfl⟩
    ·have h2:((A:Int)==(u:Int))=true:=by rw[h1];simp
     have h3:¬ ((A:Int)<(u:Int)):=by omega
     by_cases h4:B<v
     ·have h5:(B:Int)<(v:Int):=by omega
      have HB:=Kh (HPL2.out (by rw[HLB.out];simp[h1,h4]))
      clear h1
      go_wp2
      go_ret
      exact⟨ret_b (by rw[HB.out]),_,rfl⟩
     ·have h5:¬ ((B:Int)<(v:Int)):=by omega
      have HB:=Kh (HNX.out (by rw[HLB.out];simp[h1,h4]))
      clear h1
      go_wp2
      all_goals try(exfalso;omega)
      all_goals go_roundw
      all_goals first
       | exact⟨s+1,by omega,by omega,by go_num,HB.out,_,rfl⟩
       |(simp[intOf];omega)
    ·have h2:((A:Int)==(u:Int))=false:=by simp;omega
     have h3:¬ ((A:Int)<(u:Int)):=by omega
     have HB:=Kh (HNX.out (by
      rw[HLB.out]
      have h4:¬ A<u:=by omega
      have h5:¬ A=u:=by omega
      simp[h4,h5]))
     go_wp2
     go_roundw
     case rel=>exact⟨s+1,by omega,by omega,by go_num,HB.out,_,rfl⟩
     case measure=>simp[intOf];omega
   ·have hg2:(((Nat.gcd s n:Nat):Int)==1)=false:=by simp;omega
    have HB:=Kh (HNX.out (by
     rw[HLB.out]
     have h4:(Nat.gcd s n==1)=false:=by simpa using hg
     rw[h4];rfl))
    clear hg hg1
    go_wp2
    go_roundw
    case rel=>exact⟨s+1,by omega,by omega,by go_num,HB.out,_,rfl⟩
    case measure=>simp[intOf];omega
  ·have HB:=Kh (show plst n (u*n+v)=true from HPL.out.1 (fun t h1 h2=>HL.out t h1 (by omega)))
   go_wp2
   go_ret
   exact⟨ret_b (by rw[HB.out]),_,rfl⟩
theorem c_Err21 (n:Nat) (w:World) (h0:0<n) (hn:n≤120):
  Calls Tryz.prog 142 #[.int .i64 n] w fun e w'=>e=.returned (.int .i64 0)∧w'=w:=by
 go_enter Tryz.func142,Tryz.ntmps142
 go_wp2
 all_goals try(exfalso;omega)
 all_goals go_ret
 all_goals exact⟨rfl,rfl⟩
theorem c_List21 (n:Nat) (w:World) (h0:0<n) (hn:n≤120):
  Calls Tryz.prog 111 #[.int .i64 n] w fun e w'=>(∃ v,e=.returned (.tuple #[v,.int .i64 0])∧OwnPt n (pts n (n*n)) w' w.heap.size v)∧Below w.heap.size w w':=by
 have HN:=Kh (OwnPt.nil n w w.heap.size)
 go_enter Tryz.func111,Tryz.ntmps111
 go_wp2_with fail
 refine(c_Err21 n w h0 hn).mono ?_
 rintro e w1 ⟨rfl,hw⟩
 rw[hw]
 clear hw
 go_wp2_with fail
 go_loopw [5,6] (fun o x wr=>∃ u:Nat,u≤n∧x=.int .i64 u∧OwnPt n (pts n (u*n)) wr w.heap.size o∧Below w.heap.size w wr) (fun _ x _=>n - (intOf x).toNat)
 case atStart=>exact⟨0,Nat.zero_le _,rfl,by rw[Nat.zero_mul];exact HN.out,Below.refl _ _⟩
 case round=>
  obtain⟨u,hu,rfl,hpt,hb⟩:=hrel
  have HPT:=Kh hpt
  have HB:=Kh hb
  clear hpt hb
  by_cases hlt:u<n
  ·have hui:(u:Int)<(n:Int):=by omega
   have HP0:=Kh (show OwnPt n (pts n (u*n+0)) wr w.heap.size u5 from HPT.out)
   go_wp2_with fail
   obtain⟨w2,rfl⟩:∃ w2:World,w2=wr:=⟨_,rfl⟩
   go_loopw [5,7] (fun o x wr=>∃ v:Nat,v≤n∧x=.int .i64 v∧OwnPt n (pts n (u*n+v)) wr w.heap.size o∧Below w.heap.size w wr) (fun _ x _=>n - (intOf x).toNat)
   case atStart=>exact⟨0,Nat.zero_le _,rfl,HP0.out,HB.out⟩
   case round=>
    obtain⟨v,hv,rfl,hpt,hb⟩:=hrel
    obtain⟨w3,rfl⟩:∃ w3:World,w3=wr:=⟨_,rfl⟩
    have HPT3:=Kh hpt
    have HB3:=Kh hb
    clear hpt hb HP0 HPT HB
    by_cases hltv:v<n
    ·have hvi:(v:Int)<(n:Int):=by omega
     obtain⟨k,hk⟩:∃ k,u*n+v=k:=⟨_,rfl⟩
     have hkn:k<n*n:=by
      have:(u+1)*n≤n*n:=Nat.mul_le_mul_right _ hlt
      rw[Nat.add_mul,Nat.one_mul]at this
      omega
     have hkd:k / n=u:=by rw[← hk,Nat.mul_comm,Nat.mul_add_div h0,Nat.div_eq_of_lt hltv,Nat.add_zero]
     have hkm:k % n=v:=by rw[← hk,Nat.mul_comm,Nat.mul_add_mod,Nat.mod_eq_of_lt hltv]
     have HST:=Kh (pts_step h0 hkn)
     have HPO:=Kh (show pok n k=(Nat.gcd (Nat.gcd u v) n==1)by unfold pok;rw[hkd,hkm])
     have HPC:=Kh (show ptc n k=[.int .i64 (u:Int),.int .i64 (v:Int),.int .i64 1]by unfold ptc;rw[hkd,hkm])
     have HKN:=Kh (show(pts n k).length≤14400 from Nat.le_trans (pts_length n k) (by have:n*n≤120*120:=Nat.mul_le_mul hn hn;omega))
     have HLE:=Kh (show ∀ W,Calls Tryz.prog 143 #[.int .i64 n,.int .i64 u,.int .i64 v] W fun e w'=>e=.returned (.bool (plst n k))∧∃ m,w'=W.drewN m from fun W=>hk▸c_least21 n u v W hlt hltv (by omega))
     have HKS:=Kh (show u*n+(v+1)=k+1 by omega)
     rw[hk]at HPT3
     clear hkn hkd hkm hk
     go_wp2_with fail
     refine(c_gcd18 u v w3 (by omega) (by omega) (by omega) (by omega)).mono ?_
     rintro e w4 ⟨rfl,m1,rfl⟩
     have hg1:Int.gcd (u:Int) (v:Int)=Nat.gcd u v:=rfl
     obtain⟨G,hG⟩:∃ G,Nat.gcd u v=G:=⟨_,rfl⟩
     have hGl:G≤1000:=by
      rw[← hG]
      rcases Nat.eq_zero_or_pos u with h|h
      ·subst h;rw[Nat.gcd_zero_left];omega
      ·exact Nat.le_trans (Nat.gcd_le_left _ h) (by omega)
     rw[hg1,hG]
     rw[hG]at HPO
     clear hg1 hG
     go_wp2_with fail
     refine(c_gcd18 G n _ (by omega) (by omega) (by omega) (by omega)).mono ?_
     rintro e w4 ⟨rfl,m2,rfl⟩
     have hg1:Int.gcd (G:Int) (n:Int)=Nat.gcd G n:=rfl
     rw[hg1,dr2]
     clear hg1
     cases hg:(Nat.gcd G n==1)with
     | false=>
      have hg2:(((Nat.gcd G n:Nat):Int)==1)=false:=by
       simp only[beq_eq_false_iff_ne]at hg
       simp;omega
      have HE:=Kh (show pts n (k+1)=pts n k by rw[HST.out,HPO.out,hg,Bool.false_and,if_neg (by decide)])
      have HPD:=Kh (HPT3.out.keep (below_drewN' (Below.refl _ w3) (m1+m2)))
      have HBD:=Kh (below_drewN' HB3.out (m1+m2))
      clear hg
      go_wp2
      go_roundw
      case rel=>exact⟨v+1,by omega,by go_num,by rw[HKS.out,HE.out];exact HPD.out,HBD.out⟩
      case measure=>simp[intOf];omega
     | true=>
      have hg2:(((Nat.gcd G n:Nat):Int)==1)=true:=by
       simp only[beq_iff_eq]at hg
       rw[hg];rfl
      have HPO2:=Kh (show pok n k=true by rw[HPO.out,hg])
      clear hg HPO
      go_wp2_with fail
      refine(HLE.out _).mono ?_
      rintro e w4 ⟨rfl,m3,rfl⟩
      rw[dr2]
      obtain⟨w5,hw5⟩:∃ w5,w3.drewN (m1+m2+m3)=w5:=⟨_,rfl⟩
      have HPD:=Kh (hw5▸HPT3.out.keep (below_drewN' (Below.refl _ w3) (m1+m2+m3)))
      have HBD:=Kh (hw5▸below_drewN' HB3.out (m1+m2+m3))
      rw[hw5]
      clear hw5 HPT3 HB3
      cases hl:plst n k with
      | false=>
       have HE:=Kh (show pts n (k+1)=pts n k by rw[HST.out,hl,Bool.and_false,if_neg (by decide)])
       clear hl
       go_wp2
       go_roundw
       case rel=>exact⟨v+1,by omega,by go_num,by rw[HKS.out,HE.out];exact HPD.out,HBD.out⟩
       case measure=>simp[intOf];omega
      | true=>
       have HE:=Kh (show pts n (k+1)=pts n k++[k]by rw[HST.out,hl,HPO2.out];rfl)
       have HKO:=Kh (show OwnK NotU32 w5 w.heap.size 170 3 u5 (pts n k).length ((pts n k).flatMap (ptc n))from HPD.out)
       clear hl
       go_wp2_with (at_builtin;refine wpl_app2 NotU32 rfl (.tmp 35) (.tmp 39) _ 170 rfl Tryz.underlying129 ptInfo rfl (by decide) w.heap.size (pts n k).length u5 ((pts n k).flatMap (ptc n)) [.int .i64 (u:Int),.int .i64 (v:Int),.int .i64 1] rfl HKO.out rfl rfl (by intro u hu;simp at hu;rcases hu with rfl|rfl|rfl <;> rfl) (by have:=HKN.out;omega) (by have:=HKN.out;omega) HBD.out.size (by intro u hu;simp at hu;rcases hu with rfl|rfl|rfl <;> exact fun _ h=>by cases h) (by intro u hu;simp[Value.cells]at hu;rcases hu with rfl|rfl|rfl <;> exact fun _ h=>by cases h) ?_;intro v9 w9 hown9 hgr9 hat9;have HO9:=Kh (show OwnPt n (pts n k++[k]) w9 w.heap.size v9 from OwnPt.push (by rw[HPC.out];exact hown9));have HB9:=Kh (own_below HBD.out HKO.out.1 hgr9 (Nat.le_refl _) HBD.out.size);clear hown9 hgr9 hat9)
       go_roundw
       case rel=>exact⟨v+1,by omega,by go_num,by rw[HKS.out,HE.out];exact HO9.out,HB9.out⟩
       case measure=>simp[intOf];omega
    ·obtain rfl:n=v:=by omega
     have HE:=Kh (show u*n+n=(u+1)*n by rw[Nat.add_mul,Nat.one_mul])
     go_wp2
     go_roundw
     case rel=>exact⟨u+1,by omega,by go_num,by rw[← HE.out];exact HPT3.out,HB3.out⟩
     case measure=>simp[intOf];omega
  ·obtain rfl:n=u:=by omega
   go_wp2
   (first|go_ret2|go_ret)
   exact⟨⟨_,rfl,HPT.out⟩,HB.out⟩
theorem c_Psi40 (n:Nat) (w:World) (h0:0<n) (hn:n≤120):
  Calls Tryz.prog 72 #[.int .i64 n] w fun e w'=>e=.returned (.int .i64 ((pts n (n*n)).length:Int))∧Below w.heap.size w w':=by
 go_enter Tryz.func72,Tryz.ntmps72
 go_wp2_with fail
 refine(c_List21 n w h0 hn).mono ?_
 rintro e w1 ⟨⟨v,rfl,hpt⟩,hb⟩
 obtain⟨p,c,rfl⟩:=own_slice hpt.1
 have HB:=Kh hb
 clear hpt hb
 go_wp2
 go_ret
 exact⟨rfl,HB.out⟩
theorem check_zero {N k D:Int} (h:Pl.check N k D=0):1≤N∧N≤120∧2≤k∧k≤24∧-120≤D∧D≤120:=by
 by_cases hr:N<1∨120<N∨k<2∨24<k∨D < -120∨120<D
 ·rw[check_range hr]at h;cases h
 ·omega
theorem c_Count40 (n wt:Nat) (D:Int) (w:World) (hck:Pl.check n ((wt:Int)+2) D=0):
  Calls Tryz.prog 36 #[.agg #[.int .i64 n,.int .i64 ((wt:Int)+2),.int .i64 D]] w fun e w'=>e=.returned (.tuple #[.int .i64 (((wt+1)*(pts n (n*n)).length:Nat):Int),.int .i64 0])∧Below w.heap.size w w':=by
 obtain⟨h1,h2,h3,h4,h5,h6⟩:=check_zero hck
 have HPS:=Kh (fun W=>c_Psi40 n W (by omega) (by omega))
 have hpl:(pts n (n*n)).length≤14400:=Nat.le_trans (pts_length n (n*n)) (by have:n*n≤120*120:=Nat.mul_le_mul (by omega) (by omega);omega)
 obtain⟨P,hP⟩:∃ P,(pts n (n*n)).length=P:=⟨_,rfl⟩
 rw[hP]at HPS hpl ⊢
 obtain⟨C,hC⟩:∃ C,(wt+1)*P=C:=⟨_,rfl⟩
 have hCl:C≤331200:=by rw[← hC];exact Nat.mul_le_mul (by omega:wt+1≤23) hpl
 obtain⟨W1,hW1⟩:∃ x,wt+1=x:=⟨_,rfl⟩
 have v0:IntKind.i64.wrap ((wt:Int)+2 - 1)=(W1:Nat):=by rw[show(wt:Int)+2 - 1=(W1:Nat)by omega];exact IntWalk.i64_in _ (by omega)
 have e1:(W1:Int)*(P:Int)=(C:Nat):=by rw[← hC,← hW1];push_cast;rfl
 have v1:IntKind.i64.wrap (C:Int)=(C:Nat):=IntWalk.i64_in _ (by omega)
 rw[hC]
 have HCK:=Kh hck
 clear hck hP hC hW1
 go_enter Tryz.func36,Tryz.ntmps36
 go_wp2_with fail
 obtain⟨w0,hw0,X0,hb0⟩:=bx1 w #[.int .i64 n,.int .i64 ((wt:Int)+2),.int .i64 D] 40
 rw[hw0]
 refine(c_Check31 n ((wt:Int)+2) D w0).mono ?_
 rintro e w1 ⟨rfl,hb1⟩
 rw[HCK.out]
 have HX1:=Kh (X0.below_ hb1 X0.lt)
 have HB1:=Kh (hb0.trans (hb1.mono hb0.size))
 obtain⟨gs,hgs⟩:∃ x,w.heap.size=x:=⟨_,rfl⟩
 rw[hgs]at HX1 ⊢
 have x0:=HX1.out.at_ 0 rfl
 have x1:=HX1.out.at_ 1 rfl
 have HGS:=Kh hgs
 clear hw0 X0 hb0 hb1 hgs
 have HS1:=Kh (show ∀ w4,Below w1.heap.size w1 w4→(w4.cell? ⟨gs,0,none⟩=some (.int .i64 (n:Int))∧w4.cell? ⟨gs,1,none⟩=some (.int .i64 ((wt:Int)+2)))from fun w4 hb=>⟨cell_next hb x0,cell_next hb x1⟩)
 have hS0:=HS1.out _ (Below.refl _ w1).drew
 have HK1:=Kh (show ∀ wb,Below w1.drew.heap.size w1.drew wb→Below w1.heap.size w1 wb from fun wb hb=>(Below.refl _ w1).drew.trans hb)
 go_upto_region 4 with(fail)
 go_region_held3 (fun w4=>w4.cell? ⟨gs,0,none⟩=some (.int .i64 (n:Int))∧w4.cell? ⟨gs,1,none⟩=some (.int .i64 ((wt:Int)+2)))
  (first|with_reducible exact hS0|with_reducible exact HS1.out _ hbN |(exfalso;assumption))
  (first
   |(go_at_call 72;with_reducible refine(HPS.out _).mono ?_;rintro e w5 ⟨rfl,hb5⟩;have hbN:Below w1.heap.size w1 w5:=HK1.out _ hb5))
 all_goals have HBN:=Kh hbN
 all_goals go_wp2
 all_goals (first|go_ret2|go_ret)
 all_goals exact⟨rfl,HB1.out.trans (HBN.out.mono HB1.out.size)⟩
theorem c_Count40_bad (N k D:Int) (w:World) (hck:Pl.check N k D≠0):
  Calls Tryz.prog 36 #[.agg #[.int .i64 N,.int .i64 k,.int .i64 D]] w fun e w'=>e=.returned (.tuple #[.int .i64 0,.int .i64 (Pl.check N k D)])∧Below w.heap.size w w':=by
 obtain⟨er,her⟩:∃ er,Pl.check N k D=er:=⟨_,rfl⟩
 have HER:=Kh her
 rw[her]at hck ⊢
 clear her
 go_enter Tryz.func36,Tryz.ntmps36
 go_wp2_with fail
 obtain⟨w0,hw0,X0,hb0⟩:=bx1 w #[.int .i64 N,.int .i64 k,.int .i64 D] 40
 rw[hw0]
 refine(c_Check31 N k D w0).mono ?_
 rintro e w1 ⟨rfl,hb1⟩
 have HB:=Kh (hb0.trans (hb1.mono hb0.size))
 rw[HER.out]
 have hne:(er != 0)=true:=by simpa using hck
 clear hw0 X0 hb0 hb1
 go_wp2
 (first|go_ret2|go_ret)
 exact⟨rfl,HB.out⟩
theorem c_Large (n wt:Nat) (D:Int) (w:World) (hck:Pl.check n ((wt:Int)+2) D=0):
  Calls Tryz.prog 14 #[.agg #[.int .i64 n,.int .i64 ((wt:Int)+2),.int .i64 D]] w fun e w'=>e=.returned (.bool (decide (72<(wt+1)*(pts n (n*n)).length)))∧Below w.heap.size w w':=by
 have HCO:=Kh (fun W=>c_Count40 n wt D W hck)
 obtain⟨C,hC⟩:∃ C,(wt+1)*(pts n (n*n)).length=C:=⟨_,rfl⟩
 rw[hC]at HCO ⊢
 clear hck hC
 go_enter Tryz.func14,Tryz.ntmps14
 go_wp2_with fail
 have hb0:Below w.heap.size w (w.alloc (.cells #[.int .i64 n,.int .i64 ((wt:Int)+2),.int .i64 D] 40)):=(Below.refl _ _).alloc (Nat.le_refl _) _
 refine(HCO.out _).mono ?_
 rintro e w1 ⟨rfl,hb1⟩
 have HB:=Kh (hb0.trans (hb1.mono hb0.size))
 clear hb0 hb1
 by_cases h:72<C
 ·have h2:(72:Int)<(C:Int):=by omega
  go_wp2
  go_ret
  exact⟨ret_b (by simp[h]),HB.out⟩
 ·have h2:¬ ((72:Int)<(C:Int)):=by omega
  go_wp2
  go_ret
  exact⟨ret_b (by simp;omega),HB.out⟩
theorem c_Large_bad (N k D:Int) (w:World) (hck:Pl.check N k D≠0):
  Calls Tryz.prog 14 #[.agg #[.int .i64 N,.int .i64 k,.int .i64 D]] w fun e w'=>e=.returned (.bool false)∧Below w.heap.size w w':=by
 have HCO:=Kh (fun W=>c_Count40_bad N k D W hck)
 have hne:(Pl.check N k D==0)=false:=by simpa using hck
 clear hck
 go_enter Tryz.func14,Tryz.ntmps14
 go_wp2_with fail
 have hb0:Below w.heap.size w (w.alloc (.cells #[.int .i64 N,.int .i64 k,.int .i64 D] 40)):=(Below.refl _ _).alloc (Nat.le_refl _) _
 refine(HCO.out _).mono ?_
 rintro e w1 ⟨rfl,hb1⟩
 have HB:=Kh (hb0.trans (hb1.mono hb0.size))
 clear hb0 hb1
 go_wp2
 go_ret
 exact⟨rfl,HB.out⟩
end Go.Proofs.YtijgdhijdfgpfaaGreatDoor
namespace Go.Proofs.YtijgdhijdfgpfaaGreatDoor
open Go.RowKit Eli
theorem kro3 (D:Int) (l:Nat):Pl.kroP D l=0∨Pl.kroP D l=1∨Pl.kroP D l=-1:=by
 have h:-1≤Pl.kroP D l∧Pl.kroP D l≤1:=by
  unfold Pl.kroP
  dsimp only
  split
  ·omega
  ·have h:=jac_pm (l / 2 ^ Lib.ctz 64 l+1) (D % (l / 2 ^ Lib.ctz 64 l:Nat)).toNat (l / 2 ^ Lib.ctz 64 l) 1 (.inl rfl)
   split <;> omega
 omega
def relF (n wt:Nat) (D:Int) (p:Nat):Int:=relOf n wt D (p / ((wt+1)*(pts n (n*n)).length)) (p % ((wt+1)*(pts n (n*n)).length))
def cntF (n wt:Nat):Nat:=(wt+1)*(pts n (n*n)).length
def elF (n wt:Nat) (D:Int):Nat→List (Nat×Rat):=elim (cntF n wt) (rowF (cntF n wt) (relF n wt D)) (2*cntF n wt)
theorem relF_small {n wt:Nat} {D:Int} (hw:wt≤22) (p:Nat):(relF n wt D p).natAbs≤16777216:=relE_small (plAll_ok (kro3 D) n) hw _ _
theorem elF_good {n wt:Nat} {D:Int} (hw:wt≤22):Eli.Good (cntF n wt) 16777216 (elF n wt D):=Eli.Good.elim (by omega) (rowF_small (relF_small hw)) (rowF_zero _ _) _
theorem pts_zero {n:Nat} (hn:0<n):0<(pts n (n*n)).length:=by
 have key:∀ a,a<n*n→pok n a=true→plst n a=true→0<(pts n (n*n)).length:=by
  intro a h1 h2 h3
  refine List.length_pos_of_mem (a:=a) ?_
  rw[pts_filter hn _ (Nat.le_refl _),List.mem_filter]
  exact⟨List.mem_range.2 h1,by rw[h2,h3];rfl⟩
 rcases Nat.eq_or_lt_of_le (show 1≤n from hn)with rfl|h
 ·exact key 0 (by omega) (by decide) (by decide)
 ·have h1:1<n*n:=Nat.lt_of_lt_of_le h (Nat.le_mul_of_pos_left n hn)
  have hd:1 / n=0:=Nat.div_eq_of_lt h
  have hm:1 % n=1:=Nat.mod_eq_of_lt h
  refine key 1 h1 ?_ ?_
  ·unfold pok;rw[hd,hm];simp
  ·rw[plst_iff]
   intro s h2 h3 h4
   have h5:s≠n:=fun e=>by
    subst e
    unfold pun at h4
    simp only[beq_iff_eq,Nat.gcd_self]at h4
    omega
   unfold pmul
   rw[hd,hm,Nat.mul_zero,Nat.zero_mod,Nat.zero_mul,Nat.zero_add,Nat.mul_one,Nat.mod_eq_of_lt (by omega)]
   exact h2
theorem cntF_pos {n wt:Nat} (hn:0<n):0<cntF n wt:=Nat.mul_pos (by omega) (pts_zero hn)
theorem c_New (n wt:Nat) (D:Int) (w:World) (hT:Tab w) (hck:Pl.check n ((wt:Int)+2) D=0) (hC:cntF n wt≤72):
  Calls Tryz.prog 16 #[.agg #[.int .i64 n,.int .i64 ((wt:Int)+2),.int .i64 D]] w fun e w'=>(∃ M,e=.returned (.tuple #[.pointer (some ⟨M,0,none⟩),.int .i64 0])∧w.heap.size≤M∧ModAt w' M w'.heap.size n ((wt:Int)+2) D (frs (elF n wt D) (cntF n wt)) (cntF n wt) (crd (elF n wt D) (cntF n wt) (cntF n wt)))∧Below w.heap.size w w':=by
 obtain⟨h1,h2,h3,h4,h5,h6⟩:=check_zero hck
 exact c_New_ok n ((wt:Int)+2) D (2*cntF n wt) (cntF n wt) (relF n wt D) w (fun w1 hb=>c_Relations_ok n wt D (pts n (n*n)) (cntF n wt) w1 (hT.below hb) (by omega) (by omega) (by omega) (by omega) (by omega) hck (kro3 D) rfl rfl (cntF_pos (by omega)) hC) (by omega) (cntF_pos (by omega)) hC (relF_small (by omega))
theorem coord_size {n wt:Nat} {D:Int} (hw:wt≤22) (hC:cntF n wt≤72) {j f:Nat} (hj:j<cntF n wt) (hf:f∈frs (elF n wt D) (cntF n wt)):hq (crd (elF n wt D) (cntF n wt) (cntF n wt) j f)≤80:=by
 obtain⟨h1,h2⟩:=frs_mem.1 hf
 exact Nat.le_trans (crd_size (by omega) (elF_good hw) (by omega) (Nat.le_refl _) hj h1 h2) (top_72 hC (Nat.le_refl _))
theorem aw_frs:frs (elF 1 2 1) (cntF 1 2)=[2]:=by decide +kernel
theorem aw_cnt:cntF 1 2=3:=by decide +kernel
theorem aw_check:Pl.check ((1:Nat):Int) (((2:Nat):Int)+2) 1=0:=by decide +kernel
theorem c_Relations_bad (N k D:Int) (w:World) (hck:Pl.check N k D≠0):
  Calls Tryz.prog 38 #[.agg #[.int .i64 N,.int .i64 k,.int .i64 D]] w fun e w'=>e=.returned (.tuple #[.agg #[.int .i64 0,.int .i64 0,.slice none 0 0],.int .i64 (Pl.check N k D)])∧Below w.heap.size w w':=by
 have HEN:=Kh (fun W=>c_enter_bad N k D W hck)
 obtain⟨er,her⟩:∃ er,Pl.check N k D=er:=⟨_,rfl⟩
 rw[her]at hck HEN ⊢
 have hne:(er != 0)=true:=by simpa using hck
 clear her hck
 go_enter Tryz.func38,Tryz.ntmps38
 go_wp2_with fail
 obtain⟨w0,hw0,X0,X1,hb0⟩:=bx2 w #[.int .i64 N,.int .i64 k,.int .i64 D] 40 #[.int .i64 0,.int .i64 0,.slice none 0 0] 88
 rw[hw0]
 refine(HEN.out w0).mono ?_
 rintro e w1 ⟨rfl,hb1⟩
 have HX1:=Kh (X1.below_ hb1 X1.lt)
 have HB1:=Kh (hb0.trans (hb1.mono hb0.size))
 obtain⟨gr,hgr⟩:∃ x,w.heap.size+1=x:=⟨_,rfl⟩
 have HGR:=Kh hgr
 rw[hgr]at HX1 ⊢
 have r0:=HX1.out.at_ 0 rfl
 have r1:=HX1.out.at_ 1 rfl
 have r2:=HX1.out.at_ 2 rfl
 have f0:=HX1.out.free_ 0
 have f1:=HX1.out.free_ 1
 have f2:=HX1.out.free_ 2
 have HE3:=Kh (put3_at (w:=w1) (R:=gr) (v0:=.int .i64 0) (v1:=.int .i64 0) (v2:=.slice none 0 0) (by rw[r0];rfl) (by rw[r1];rfl) (by rw[r2];rfl))
 clear hw0 X0 X1 hb0 hb1 hgr HEN
 go_wp2
 have e0:=HE3.out.1
 have e1:=HE3.out.2.1
 have e2:=HE3.out.2.2
 try simp only[Exit.inBlock,Exit.then]
 refine bodyPost_ret (by simp[results,Tryz.results38,go_sem,e0,e1,e2];try rfl) rfl ?_
 exact⟨rfl,((HB1.out.setCell (p:=⟨gr,0,none⟩) (by have:=HGR.out;show w.heap.size≤gr;omega) _).setCell (p:=⟨gr,1,none⟩) (by have:=HGR.out;show w.heap.size≤gr;omega) _).setCell (p:=⟨gr,2,none⟩) (by have:=HGR.out;show w.heap.size≤gr;omega) _⟩
theorem c_New_check (N k D:Int) (w:World) (hck:Pl.check N k D≠0):
  Calls Tryz.prog 16 #[.agg #[.int .i64 N,.int .i64 k,.int .i64 D]] w fun e w'=>e=.returned (.tuple #[.pointer none,.int .i64 (Pl.check N k D)])∧Below w.heap.size w w':=
 c_New_bad N k D (Pl.check N k D) w (fun w1 _=>(c_Relations_bad N k D w1 hck).mono (fun _ _ h=>⟨⟨0,0,h.1⟩,h.2⟩)) hck
end Go.Proofs.YtijgdhijdfgpfaaGreatDoor
namespace Go.Proofs.YtijgdhijdfgpfaaGreatDoor
open Go.RowKit
theorem c_Number (n wt:Nat) (D:Int) (i:Nat) (u v:Int) (w:World) (hT:Tab w) (hck:Pl.check n ((wt:Int)+2) D=0) (hi:i≤wt) (hs:(plcOf n D u v).2≠0):
  Calls Tryz.prog 86 #[.agg #[.int .i64 n,.int .i64 ((wt:Int)+2),.int .i64 D],.agg #[.int .i64 i,.int .i64 u,.int .i64 v]] w fun e w'=>e=.returned (.tuple #[.int .i64 ((i*(pts n (n*n)).length+(plcOf n D u v).1:Nat):Int),.int .i64 (plcOf n D u v).2,.int .i64 0])∧Below w.heap.size w w':=by
 obtain⟨h1,h2,h3,h4,h5,h6⟩:=check_zero hck
 have hpl:(pts n (n*n)).length≤14400:=Nat.le_trans (pts_length n (n*n)) (by have:n*n≤120*120:=Nat.mul_le_mul (by omega) (by omega);omega)
 have HEN:=Kh (fun W (hb:Below w.heap.size w W)=>c_enter_ok n wt D W (hT.below hb) (by omega) (by omega) (by omega) (by omega) (by omega) hck)
 have HAT:=Kh (fun T B W h hB=>c_atW T B n wt (pts n (n*n)) (plAll n D (pts n (n*n)) n) u v W h hB (by omega) (by omega))
 have HPB:=Kh (show(plcOf n D u v).1<(pts n (n*n)).length from by
  rcases plAll_ok (kro3 D) n ((u % n).toNat*n+(v % n).toNat)with h|h
  ·exact absurd (by unfold plcOf;rw[h]) hs
  ·exact h.1)
 obtain⟨pc,hpc⟩:∃ p,plcOf n D u v=p:=⟨_,rfl⟩
 have hpc2:plAll n D (pts n (n*n)) n ((u % n).toNat*n+(v % n).toNat)=pc:=hpc
 rw[hpc2]at HAT
 rw[hpc]at hs HPB ⊢
 obtain⟨L,hL⟩:∃ L,pts n (n*n)=L:=⟨_,rfl⟩
 rw[hL]at HEN HAT HPB hpl ⊢
 obtain⟨f,hf⟩:∃ f,plAll n D L n=f:=⟨_,rfl⟩
 rw[hf]at HEN HAT
 have hwt:wt≤22:=by omega
 have hse:(pc.2==0)=false:=by rw[beq_eq_false_iff_ne];exact hs
 obtain⟨iL,hiL⟩:∃ x,i*L.length=x:=⟨_,rfl⟩
 have e1:(i:Int)*(L.length:Int)=(iL:Nat):=by rw[← hiL];push_cast;rfl
 have hb1:iL≤22*14400:=by rw[← hiL];exact Nat.mul_le_mul (by omega) hpl
 have hp1:pc.1<14400:=by have:=HPB.out;omega
 rw[hiL]
 have HS:=Kh hs
 clear hT hck h1 h2 h3 h4 h5 h6 hs hpc hpc2 hL hf hiL
 have hi0:¬ ((i:Int)<0):=by omega
 have hd0:decide ((i:Int)<0)=false:=decide_eq_false hi0
 have hi1:¬ ((wt:Int)<(i:Int)):=by omega
 have hd1:decide ((wt:Int)<(i:Int))=false:=decide_eq_false hi1
 go_enter Tryz.func86,Tryz.ntmps86
 go_wp2_with fail
 obtain⟨w0,hw0,_,XB,hb0⟩:=bx2 w #[.int .i64 n,.int .i64 ((wt:Int)+2),.int .i64 D] 40 #[.int .i64 i,.int .i64 u,.int .i64 v] 145
 rw[hw0]
 refine(HEN.out w0 hb0).mono ?_
 rintro e w1 ⟨⟨T,rfl,hwa⟩,hb1⟩
 have XB1:=XB.below_ hb1 XB.lt
 have x0:=XB1.at_ 0 rfl
 have x1:=XB1.at_ 1 rfl
 have x2:=XB1.at_ 2 rfl
 have t1:=hwa.c1
 have HWA:=Kh hwa
 have HX1:=Kh XB1
 have HB1:=Kh (hb0.trans (hb1.mono hb0.size))
 clear hw0 XB hb0 hb1 hwa XB1 HEN
 go_upto_region 4 with(fail)
 go_quiet (fail)
 have hb2:Below w1.heap.size w1 (w1.drewN nq):=below_drewN' (Below.refl _ _) nq
 generalize w1.drewN nq=w2 at hb2 ⊢
 have HW2:=Kh (HWA.out.keep (Nat.le_refl _) hb2)
 have HX2:=Kh (bk HX1 hb2)
 have HB2:=bt HB1 hb2
 have HS2:=Kh hb2.size
 clear x0 x1 x2 t1 hb2 HX1 HB1 HWA
 have x0:=HX2.out.at_ 0 rfl
 have x1:=HX2.out.at_ 1 rfl
 have x2:=HX2.out.at_ 2 rfl
 go_wp2_with fail
 refine(HAT.out T w1.heap.size w2 HW2.out HS2.out).mono ?_
 rintro e w3 ⟨rfl,hb3⟩
 have HW3:=Kh (HW2.out.keep HS2.out hb3)
 have HX3:=Kh (bk HX2 hb3)
 have HB3:=bt HB2 hb3
 clear x0 x1 x2 hb3 HX2 HB2 HW2
 go_upto_region 7 with(fail)
 obtain⟨w4,hw4,X4,hb4⟩:=bx1 w3 #[.int .i64 (pc.1:Int),.int .i64 pc.2] 172
 rw[hw4]
 have y0:=X4.at_ 0 rfl
 have y1:=X4.at_ 1 rfl
 have x0:=(bk HX3 hb4).at_ 0 rfl
 obtain⟨pl,cl,t2,_⟩:=HW3.out.c2
 have t2:=cell_next hb4 t2
 have HB4:=bt HB3 hb4
 clear hw4 X4 hb4 HX3 HB3 HW3
 go_upto_region 9 with(fail)
 go_quiet (fail)
 have HB5:=Kh (show Below w.heap.size w (w4.drewN nq)from below_drewN' HB4.out nq)
 go_wp2
 go_ret3
 exact⟨by push_cast;rfl,HB5.out⟩
def stpM (x y:Int×Int):(Int×Int)×(Int×Int):=if y.1*x.2 - x.1*y.2=1 then((y.1,x.1),(y.2,x.2))else((y.1,-x.1),(y.2,-x.2))
theorem c_step (a b c d:Int) (w:World) (ha:-1073741824≤a) (ha':a≤1073741824) (hb:-1073741824≤b) (hb':b≤1073741824) (hc:-1073741824≤c) (hc':c≤1073741824) (hd:-1073741824≤d) (hd':d≤1073741824)
  (hdet:c*b - a*d=1∨c*b - a*d=-1):
  Calls Tryz.prog 85 #[.agg #[.int .i64 a,.int .i64 b],.agg #[.int .i64 c,.int .i64 d]] w fun e w'=>e=.returned (.tuple #[.agg #[.int .i64 (stpM (a,b) (c,d)).1.1,.int .i64 (stpM (a,b) (c,d)).1.2,.int .i64 (stpM (a,b) (c,d)).2.1,.int .i64 (stpM (a,b) (c,d)).2.2],.bool true])∧Below w.heap.size w w':=by
 have hm1:=mul_b hc hc' hb hb'
 have hm2:=mul_b ha ha' hd hd'
 obtain⟨cb,hcb⟩:∃ x,c*b=x:=⟨_,rfl⟩
 obtain⟨ad,had⟩:∃ x,a*d=x:=⟨_,rfl⟩
 rcases hdet with h|h
 ·rw[show stpM (a,b) (c,d)=((c,a),(d,b))by unfold stpM;rw[if_pos h]]
  rw[hcb]at h hm1
  rw[had]at h hm2
  go_enter Tryz.func85,Tryz.ntmps85
  go_wp2
  try simp only[Exit.inBlock,Exit.then]
  refine bodyPost_ret (by simp[results,Tryz.results85,go_sem];try rfl) rfl ?_
  exact⟨rfl,((((Below.refl _ w).alloc (Nat.le_refl _) _).alloc (by simp) _).alloc (by simp;omega) _).alloc (by simp;omega) _⟩
 ·rw[show stpM (a,b) (c,d)=((c,-a),(d,-b))by unfold stpM;rw[if_neg (by show ¬ (c*b - a*d=1);omega)]]
  rw[hcb]at h hm1
  rw[had]at h hm2
  go_enter Tryz.func85,Tryz.ntmps85
  go_wp2
  try simp only[Exit.inBlock,Exit.then]
  refine bodyPost_ret (by simp[results,Tryz.results85,go_sem];try rfl) rfl ?_
  exact⟨rfl,((((Below.refl _ w).alloc (Nat.le_refl _) _).alloc (by simp) _).alloc (by simp;omega) _).alloc (by simp;omega) _⟩
end Go.Proofs.YtijgdhijdfgpfaaGreatDoor
