/- Contracts of halfplaneref40: Unit, plus. -/
import Derived.Test.YthikonjlgljikaaGreatDoorV27
import Derived.Test.YthikonjlgljikaaGreatDoorV40
import Derived.Test.YthikonjlgljikaaGreatDoorV35
import Derived.Test.YthikonjlgljikaaGreatDoorV02
import Derived.Test.YthikonjlgljikaaGreatDoorV05
import Derived.Test.YthikonjlgljikaaGreatDoorV12
import Derived.Test.YthikonjlgljikaaGreatDoorV33
import Derived.Test.YthikonjlgljikaaGreatDoorV07
set_option linter.unusedSimpArgs false
set_option maxRecDepth 100000
set_option maxHeartbeats 8000000
namespace Go.Proofs.YthikonjlgljikaaGreatDoor
open Go.RowKit
theorem c_Unit40 (C m:Nat) (w:World) (hm:m<C) (hC:C≤1000):
  Calls Tryz.prog 107 #[.int .i64 C,.int .i64 m] w fun e w'=>(∃ g cap,e=.returned (.slice (some ⟨g,0,none⟩) C cap)∧w.heap.size≤g∧ZRow (fun j=>if j=m then 1 else 0) w' g C C)∧Below w.heap.size w w':=by
 have hmk:=makeI C (by omega)
 have hmi:(m:Int)<(C:Int):=by omega
 go_enter Tryz.func107,Tryz.ntmps107
 go_wp2_with fail
 have hrow:=World.rowIs_made w (.int .i64 0) C 3
 obtain⟨wn,hwn⟩:∃ wn,w.alloc (.cells (madeCells #[.int .i64 0] C) 3)=wn:=⟨_,rfl⟩
 rw[hwn]at hrow ⊢
 have hbn:Below w.heap.size w wn:=hwn▸(Below.refl _ _).alloc (Nat.le_refl _) _
 have HBN:=Kh hbn
 have HZS:=Kh (c_Zs w.heap.size C C (fun _=>0) wn hrow.lt (fun j hj=>hrow.cell hj) (fun _ _=>by omega) (by omega))
 clear hrow hbn hwn hmk
 refine HZS.out.mono ?_
 rintro e w2 ⟨⟨v2,rfl,ho⟩,hb2⟩
 obtain⟨g,cap,rfl,hgB,hro⟩:=ho.row.resolve_left (fun h=>by omega)
 have HB2:=bt HBN hb2
 have hgw:w.heap.size≤g:=Nat.le_trans HBN.out.size hgB
 have HGW:=Kh hgw
 have HRO:=Kh hro
 clear hb2 ho HZS HBN hgB hro hgw
 go_wp2_with fail
 refine(c_Z 1 w2 (by omega) (by omega)).mono ?_
 rintro e w3 ⟨⟨s,p,n,c,rfl,hz⟩,hb3⟩
 have hr3:=HRO.out.keep hb3
 have HR3:=Kh (hr3.set m hm (k':=C) (fun j=>if j=m then 1 else 0) (fun i hi hne=>⟨hi,by rw[if_neg hne]⟩) (show Zs w3 s p n c (if m=m then 1 else 0)by rw[if_pos rfl];exact hz))
 have HB3:=bt HB2 hb3
 obtain⟨u0,hu0⟩:=Option.isSome_iff_exists.1 (hr3.has (m*2) (by omega))
 obtain⟨u1,hu1⟩:=Option.isSome_iff_exists.1 (hr3.has (m*2+1) (by omega))
 have f0:=hr3.free (m*2) (by omega)
 have f1:=hr3.free (m*2+1) (by omega)
 clear hb3 hz hr3
 go_wp2
 go_ret
 exact⟨⟨g,cap,rfl,HGW.out,HR3.out⟩,(HB3.out.setCell (p:=⟨g,m*2,none⟩) HGW.out _).setCell (p:=⟨g,m*2+1,none⟩) HGW.out _⟩
theorem c_plus40 (va vb:Value) (n:Nat) (f h:Nat→Int) (w:World) (ha:ZL f w va n) (hb:ZL h w vb n) (h0:0<n) (hn:n≤1000) (hf:∀ j,nd (f j).natAbs≤1000000) (hh:∀ j,nd (h j).natAbs≤1000000):
  Calls Tryz.prog 106 #[va,vb] w fun e w'=>(∃ v',e=.returned v'∧OwnZ (fun j=>f j+h j) w' w.heap.size v' n)∧Below w.heap.size w w':=by
 obtain⟨g1,o1,l1,rfl,hg1,r1⟩:=ha.resolve_left (fun h=>by omega)
 obtain⟨g2,o2,l2,rfl,hg2,r2⟩:=hb.resolve_left (fun h=>by omega)
 have HR1:=Kh r1
 have HR2:=Kh r2
 have HF:=Kh hf
 have HH:=Kh hh
 have HN:=Kh (OwnZ.nil (fun j=>f j+h j) w w.heap.size)
 have HG:=Kh (And.intro hg1 hg2)
 clear ha hb r1 r2 hf hh hg1 hg2
 go_enter Tryz.func106,Tryz.ntmps106
 go_wp2
 go_loopw [5,6] (fun v i wr=>∃ k:Nat,k≤n∧i=.int .i64 k∧OwnZ (fun j=>f j+h j) wr w.heap.size v k∧Below w.heap.size w wr) (fun _ i _=>n - (intOf i).toNat)
 case atStart=>exact⟨0,Nat.zero_le _,rfl,HN.out,Below.refl _ _⟩
 case round=>
  obtain⟨k,hk,rfl,ho,hbw⟩:=hrel
  obtain⟨we,rfl⟩:∃ we:World,we=wr:=⟨_,rfl⟩
  have HBW:=Kh hbw
  by_cases hlt:k<n
  ·have hki:(k:Int)<(n:Int):=by omega
   obtain⟨xs,hKO,hXO⟩:=ho
   have HKO:=Kh (fun w1 (hb:Below we.heap.size we w1)=>hKO.keep hb)
   have HXO:=Kh (fun w1 (hb:Below we.heap.size we w1)=>(OwnZ.keep ⟨xs,hKO,hXO⟩ hb:OwnZ (fun j=>f j+h j) w1 w.heap.size u5 k))
   have HXX:=Kh (fun w1 (hb:Below we.heap.size we w1) j (hj:j<k)=>show ZX (f j+h j) w1 xs (j*2)from by
    obtain⟨s,p,n',c,e0,e1,hz⟩:=hXO j hj
    exact⟨s,p,n',c,e0,e1,hz.keep hb⟩)
   obtain⟨s1,p1,n1,c1,a0,a1,hz1⟩:=(HR1.out k hlt).keep hbw
   obtain⟨s2,p2,n2,c2,b0,b1,hz2⟩:=(HR2.out k hlt).keep hbw
   have HZ1:=Kh (show Zs we s1 p1 n1 c1 (f k)from hz1)
   have HZ2:=Kh (show Zs we s2 p2 n2 c2 (h k)from hz2)
   have HAD:=Kh (fun W (hb:Below we.heap.size we W)=>c_rAdd s1 p1 n1 c1 (f k) s2 p2 n2 c2 (h k) W (HZ1.out.keep hb).raw (HZ2.out.keep hb).raw (by have:=HF.out k;have:=HZ1.out.2.1;omega) (by have:=HH.out k;have:=HZ2.out.2.1;omega))
   have HS1:=Kh (show ∀ W,Below w.heap.size we W→(W.cell? ⟨g1,o1+k*2,none⟩=some (.bool s1)∧W.cell? ⟨g1,o1+k*2+1,none⟩=some (.slice p1 n1 c1)∧W.cell? ⟨g2,o2+k*2,none⟩=some (.bool s2)∧W.cell? ⟨g2,o2+k*2+1,none⟩=some (.slice p2 n2 c2))from fun W hb=>⟨(hb.cell (p:=⟨g1,o1+k*2,none⟩) HG.out.1).trans a0,(hb.cell (p:=⟨g1,o1+k*2+1,none⟩) HG.out.1).trans a1,(hb.cell (p:=⟨g2,o2+k*2,none⟩) HG.out.2).trans b0,(hb.cell (p:=⟨g2,o2+k*2+1,none⟩) HG.out.2).trans b1⟩)
   have hS0:=HS1.out _ (Below.refl _ we).drew
   have HK1:=Kh (show ∀ wb,Below we.drew.heap.size we.drew wb→Below we.heap.size we wb from fun wb hb=>(Below.refl _ we).drew.trans hb)
   have HBS:=Kh (show w.heap.size≤we.heap.size from hbw.size)
   clear hbw hKO hXO hz1 hz2 a0 a1 b0 b1
   go_upto_region 5 with(fail)
   go_region_held3 (fun W=>W.cell? ⟨g1,o1+k*2,none⟩=some (.bool s1)∧W.cell? ⟨g1,o1+k*2+1,none⟩=some (.slice p1 n1 c1)∧W.cell? ⟨g2,o2+k*2,none⟩=some (.bool s2)∧W.cell? ⟨g2,o2+k*2+1,none⟩=some (.slice p2 n2 c2))
    (first|with_reducible exact hS0|exact HS1.out _ HB9.out|exact HS1.out _ (HBA.out.mono HBS.out)|exact HS1.out _ ((HBA.out.mono HBS.out).alloc (Nat.le_trans HBS.out HBA.out.size) _) |(exfalso;assumption))
    (first
     |(refine step_app2 NotInt rfl (.tmp 13) (.tmp 23) _ 33 rfl Tryz.underlying74 aIntInfo rfl (by decide) w.heap.size k u5 xs [.bool s6,.slice p6 n6 c6] rfl (HKO.out _ HBA.out) rfl rfl (one2 _ _ _ _) (by omega) (by omega) (Nat.le_trans HBS.out HBA.out.size) (ni2 _ _ _ _) niz2 ?_;intro v9 w9 hown9 hgr9 hat9;have HO9:=Kh (OwnZ.push (W:=_) (f:=fun j=>f j+h j) (HKO.out _ HBA.out) (HXX.out _ HBA.out) hz6 hown9 hgr9);have HB9:=Kh (own_below (HBA.out.mono HBS.out) (HKO.out _ HBA.out).1 hgr9 (Nat.le_refl _) (Nat.le_trans HBS.out HBA.out.size));clear hown9 hgr9 hat9)
     |(go_at_call 117;(with_reducible refine(HAD.out _ (HK1.out _ (Below.refl _ _))).mono ?_);rintro e w6 ⟨⟨s6,p6,n6,c6,rfl,hz6⟩,hb6⟩;have HBA:=Kh (HK1.out _ hb6)))
   all_goals go_wp2
   all_goals go_roundw
   all_goals first
    | exact⟨k+1,by omega,by go_num,HO9.out,HBW.out.trans HB9.out⟩
    |(simp[intOf];omega)
  ·obtain rfl:n=k:=by omega
   clear hbw
   go_wp2
   go_ret
   exact⟨⟨_,rfl,ho⟩,HBW.out⟩
def lbad (n u v s:Nat):Bool:=(Nat.gcd s n==1)&&(decide (s*u % n<u)||(decide (s*u % n=u)&&decide (s*v % n<v)))
theorem lex_le {n u v A B:Nat} (hv:v<n) (hB:B<n):u*n+v≤A*n+B↔¬ (A<u∨A=u∧B<v):=by
 constructor
 ·rintro h (h1 |⟨rfl,h1⟩)
  ·have h2:(A+1)*n≤u*n:=Nat.mul_le_mul_right _ h1
   rw[Nat.add_mul,Nat.one_mul]at h2
   omega
  ·omega
 ·intro h
  rcases Nat.lt_trichotomy A u with h1|h1|h1
  ·exact absurd (.inl h1) h
  ·subst h1
   have:v≤B:=by
    rcases Nat.lt_or_ge B v with h2|h2
    ·exact absurd (.inr ⟨rfl,h2⟩) h
    ·exact h2
   omega
  ·have h2:(u+1)*n≤A*n:=Nat.mul_le_mul_right _ h1
   rw[Nat.add_mul,Nat.one_mul]at h2
   omega
theorem lbad_plst {n u v:Nat} (hu:u<n) (hv:v<n):(∀ s,2≤s→s<n→lbad n u v s=false)↔plst n (u*n+v)=true:=by
 have hn:0<n:=by omega
 have hd:(u*n+v) / n=u:=by rw[Nat.mul_comm,Nat.mul_add_div hn,Nat.div_eq_of_lt hv,Nat.add_zero]
 have hm:(u*n+v) % n=v:=by rw[Nat.mul_comm,Nat.mul_add_mod,Nat.mod_eq_of_lt hv]
 have hp:∀ s,pmul n s (u*n+v)=s*u % n*n+s*v % n:=fun s=>by unfold pmul;rw[hd,hm]
 have hlt:u*n+v<n*n:=by
  have:(u+1)*n≤n*n:=Nat.mul_le_mul_right _ hu
  rw[Nat.add_mul,Nat.one_mul]at this
  omega
 rw[plst_iff]
 constructor
 ·intro h s h1 h2 h3
  rcases Nat.eq_or_lt_of_le h1 with rfl|h4
  ·rw[pmul_one hlt];exact Nat.le_refl _
  ·rcases Nat.eq_or_lt_of_le h2 with rfl|h5
   ·exfalso
    unfold pun at h3
    simp only[beq_iff_eq,Nat.gcd_self]at h3
    omega
   ·have h6:=h s h4 h5
    unfold lbad at h6
    unfold pun at h3
    rw[h3,Bool.true_and]at h6
    rw[hp,lex_le hv (Nat.mod_lt _ hn)]
    intro h7
    have h8:(decide (s*u % n<u)||(decide (s*u % n=u)&&decide (s*v % n<v)))=true:=by
     rcases h7 with h7 |⟨h7,h8⟩
     ·simp[h7]
     ·simp[h7,h8]
    rw[h8]at h6
    cases h6
 ·intro h s h1 h2
  unfold lbad
  cases hg:(Nat.gcd s n==1)with
  | false=>rfl
  | true=>
   have h3:=h s (by omega) (by omega) hg
   rw[hp,lex_le hv (Nat.mod_lt _ hn)]at h3
   rw[Bool.true_and]
   cases hb:(decide (s*u % n<u)||(decide (s*u % n=u)&&decide (s*v % n<v)))with
   | false=>rfl
   | true=>
    exfalso
    apply h3
    simp only[Bool.or_eq_true,Bool.and_eq_true,decide_eq_true_eq]at hb
    exact hb
theorem pts_step {n k:Nat} (hn:0<n) (hk:k<n*n):pts n (k+1)=if pok n k&&plst n k then pts n k++[k]else pts n k:=by
 rw[pts_filter hn (k+1) hk,pts_filter hn k (by omega),List.range_succ,List.filter_append]
 cases hc:(pok n k&&plst n k)with
 | true=>rw[if_pos rfl];simp[hc]
 | false=>rw[if_neg (by decide)];simp[hc]
theorem c_least21 (n u v:Nat) (w:World) (hu:u<n) (hv:v<n) (hn:n≤1000):
  Calls Tryz.prog 209 #[.int .i64 n,.int .i64 u,.int .i64 v] w fun e w'=>e=.returned (.bool (plst n (u*n+v)))∧∃ m,w'=w.drewN m:=by
 have HPL:=Kh (lbad_plst hu hv)
 go_enter Tryz.func209,Tryz.ntmps209
 go_wp2
 go_loopw [7] (fun x wr=>∃ s:Nat,2≤s∧s≤n+2∧x=.int .i64 s∧(∀ t,2≤t→t<s→lbad n u v t=false)∧∃ m,wr=w.drewN m) (fun x _=>n+2 - (intOf x).toNat)
 case atStart=>exact⟨2,Nat.le_refl _,by omega,rfl,fun t h1 h2=>by omega,0,rfl⟩
 case round=>
  obtain⟨s,hs,hs2,rfl,hl,m,rfl⟩:=hrel
  have HL:=Kh hl
  clear hl
  by_cases hlt:s<n
  ·have hsi:(s:Int)<(n:Int):=by omega
   obtain⟨P,hP⟩:∃ x,s*u=x:=⟨_,rfl⟩
   obtain⟨Q,hQ⟩:∃ x,s*v=x:=⟨_,rfl⟩
   obtain⟨A,hA⟩:∃ x,P % n=x:=⟨_,rfl⟩
   obtain⟨B,hB⟩:∃ x,Q % n=x:=⟨_,rfl⟩
   have hPl:P≤1000000:=by rw[← hP];exact Nat.mul_le_mul (by omega:s≤1000) (by omega:u≤1000)
   have hQl:Q≤1000000:=by rw[← hQ];exact Nat.mul_le_mul (by omega:s≤1000) (by omega:v≤1000)
   have e1:(s:Int)*(u:Int)=(P:Nat):=by rw[← hP];push_cast;rfl
   have e2:(s:Int)*(v:Int)=(Q:Nat):=by rw[← hQ];push_cast;rfl
   have e3:Int.tmod (P:Int) (n:Int)=(A:Nat):=by rw[Int.tmod_eq_emod_of_nonneg (by omega),← hA];rfl
   have e4:Int.tmod (Q:Int) (n:Int)=(B:Nat):=by rw[Int.tmod_eq_emod_of_nonneg (by omega),← hB];rfl
   have e5:((n:Int)==0)=false:=by simp;omega
   have hAn:A<n:=by rw[← hA];exact Nat.mod_lt _ (by omega)
   have hBn:B<n:=by rw[← hB];exact Nat.mod_lt _ (by omega)
   have v1:IntKind.i64.wrap (P:Int)=(P:Nat):=IntWalk.i64_in _ (by omega)
   have v2:IntKind.i64.wrap (Q:Int)=(Q:Nat):=IntWalk.i64_in _ (by omega)
   have v3:IntKind.i64.wrap (A:Int)=(A:Nat):=IntWalk.i64_in _ (by omega)
   have v4:IntKind.i64.wrap (B:Int)=(B:Nat):=IntWalk.i64_in _ (by omega)
   have HLB:=Kh (show lbad n u v s=((Nat.gcd s n==1)&&(decide (A<u)||(decide (A=u)&&decide (B<v))))by unfold lbad;rw[hP,hQ,hA,hB])
   have HPL2:=Kh (show lbad n u v s=true→plst n (u*n+v)=false from fun h=>by
    cases hp:plst n (u*n+v)with
    | false=>rfl
    | true=>have:=HPL.out.2 hp s hs hlt;rw[h]at this;cases this)
   have HNX:=Kh (show lbad n u v s=false→∀ t,2≤t→t<s+1→lbad n u v t=false from fun h t h1 h2=>by
    rcases Nat.eq_or_lt_of_le (Nat.lt_succ_iff.1 h2)with rfl|h3
    ·exact h
    ·exact HL.out t h1 h3)
   clear hP hQ hA hB
   go_wp2_with fail
   refine(c_gcd18 s n (w.drewN m) (by omega) (by omega) (by omega) (by omega)).mono ?_
   rintro e w1 ⟨rfl,m1,rfl⟩
   have hg1:Int.gcd (s:Int) (n:Int)=Nat.gcd s n:=rfl
   rw[hg1,dr2]
   by_cases hg:Nat.gcd s n=1
   ·have hg2:(((Nat.gcd s n:Nat):Int)==1)=true:=by rw[hg];rfl
    have hg3:(Nat.gcd s n==1)=true:=by rw[hg];rfl
    rw[hg3,Bool.true_and]at HLB
    clear hg hg3 hg1
    rcases Nat.lt_trichotomy A u with h1|h1|h1
    ·have h2:(A:Int)<(u:Int):=by omega
     have HB:=Kh (HPL2.out (by rw[HLB.out];simp[h1]))
     go_wp2
     go_ret
     exact⟨ret_b (by rw[HB.out]),_,rfl⟩
    ·have h2:((A:Int)==(u:Int))=true:=by rw[h1];simp
     have h3:¬ ((A:Int)<(u:Int)):=by omega
     by_cases h4:B<v
     ·have h5:(B:Int)<(v:Int):=by omega
      have HB:=Kh (HPL2.out (by rw[HLB.out];simp[h1,h4]))
      clear h1
      go_wp2
      go_ret
      exact⟨ret_b (by rw[HB.out]),_,rfl⟩
     ·have h5:¬ ((B:Int)<(v:Int)):=by omega
      have HB:=Kh (HNX.out (by rw[HLB.out];simp[h1,h4]))
      clear h1
      go_wp2
      all_goals try(exfalso;omega)
      all_goals go_roundw
      all_goals first
       | exact⟨s+1,by omega,by omega,by go_num,HB.out,_,rfl⟩
       |(simp[intOf];omega)
    ·have h2:((A:Int)==(u:Int))=false:=by simp;omega
     have h3:¬ ((A:Int)<(u:Int)):=by omega
     have HB:=Kh (HNX.out (by
      rw[HLB.out]
      have h4:¬ A<u:=by omega
      have h5:¬ A=u:=by omega
      simp[h4,h5]))
     go_wp2
     go_roundw
     case rel=>exact⟨s+1,by omega,by omega,by go_num,HB.out,_,rfl⟩
     case measure=>simp[intOf];omega
   ·have hg2:(((Nat.gcd s n:Nat):Int)==1)=false:=by simp;omega
    have HB:=Kh (HNX.out (by
     rw[HLB.out]
     have h4:(Nat.gcd s n==1)=false:=by simpa using hg
     rw[h4];rfl))
    clear hg hg1
    go_wp2
    go_roundw
    case rel=>exact⟨s+1,by omega,by omega,by go_num,HB.out,_,rfl⟩
    case measure=>simp[intOf];omega
  ·have HB:=Kh (show plst n (u*n+v)=true from HPL.out.1 (fun t h1 h2=>HL.out t h1 (by omega)))
   go_wp2
   go_ret
   exact⟨ret_b (by rw[HB.out]),_,rfl⟩
theorem c_Err21 (n:Nat) (w:World) (h0:0<n) (hn:n≤120):
  Calls Tryz.prog 208 #[.int .i64 n] w fun e w'=>e=.returned (.int .i64 0)∧w'=w:=by
 go_enter Tryz.func208,Tryz.ntmps208
 go_wp2
 all_goals try(exfalso;omega)
 all_goals go_ret
 all_goals exact⟨rfl,rfl⟩
theorem c_List21 (n:Nat) (w:World) (h0:0<n) (hn:n≤120):
  Calls Tryz.prog 167 #[.int .i64 n] w fun e w'=>(∃ v,e=.returned (.tuple #[v,.int .i64 0])∧OwnPt n (pts n (n*n)) w' w.heap.size v)∧Below w.heap.size w w':=by
 have HN:=Kh (OwnPt.nil n w w.heap.size)
 go_enter Tryz.func167,Tryz.ntmps167
 go_wp2_with fail
 refine(c_Err21 n w h0 hn).mono ?_
 rintro e w1 ⟨rfl,hw⟩
 rw[hw]
 clear hw
 go_wp2_with fail
 go_loopw [5,6] (fun o x wr=>∃ u:Nat,u≤n∧x=.int .i64 u∧OwnPt n (pts n (u*n)) wr w.heap.size o∧Below w.heap.size w wr) (fun _ x _=>n - (intOf x).toNat)
 case atStart=>exact⟨0,Nat.zero_le _,rfl,by rw[Nat.zero_mul];exact HN.out,Below.refl _ _⟩
 case round=>
  obtain⟨u,hu,rfl,hpt,hb⟩:=hrel
  have HPT:=Kh hpt
  have HB:=Kh hb
  clear hpt hb
  by_cases hlt:u<n
  ·have hui:(u:Int)<(n:Int):=by omega
   have HP0:=Kh (show OwnPt n (pts n (u*n+0)) wr w.heap.size u5 from HPT.out)
   go_wp2_with fail
   obtain⟨w2,rfl⟩:∃ w2:World,w2=wr:=⟨_,rfl⟩
   go_loopw [5,7] (fun o x wr=>∃ v:Nat,v≤n∧x=.int .i64 v∧OwnPt n (pts n (u*n+v)) wr w.heap.size o∧Below w.heap.size w wr) (fun _ x _=>n - (intOf x).toNat)
   case atStart=>exact⟨0,Nat.zero_le _,rfl,HP0.out,HB.out⟩
   case round=>
    obtain⟨v,hv,rfl,hpt,hb⟩:=hrel
    obtain⟨w3,rfl⟩:∃ w3:World,w3=wr:=⟨_,rfl⟩
    have HPT3:=Kh hpt
    have HB3:=Kh hb
    clear hpt hb HP0 HPT HB
    by_cases hltv:v<n
    ·have hvi:(v:Int)<(n:Int):=by omega
     obtain⟨k,hk⟩:∃ k,u*n+v=k:=⟨_,rfl⟩
     have hkn:k<n*n:=by
      have:(u+1)*n≤n*n:=Nat.mul_le_mul_right _ hlt
      rw[Nat.add_mul,Nat.one_mul]at this
      omega
     have hkd:k / n=u:=by rw[← hk,Nat.mul_comm,Nat.mul_add_div h0,Nat.div_eq_of_lt hltv,Nat.add_zero]
     have hkm:k % n=v:=by rw[← hk,Nat.mul_comm,Nat.mul_add_mod,Nat.mod_eq_of_lt hltv]
     have HST:=Kh (pts_step h0 hkn)
     have HPO:=Kh (show pok n k=(Nat.gcd (Nat.gcd u v) n==1)by unfold pok;rw[hkd,hkm])
     have HPC:=Kh (show ptc n k=[.int .i64 (u:Int),.int .i64 (v:Int),.int .i64 1]by unfold ptc;rw[hkd,hkm])
     have HKN:=Kh (show(pts n k).length≤14400 from Nat.le_trans (pts_length n k) (by have:n*n≤120*120:=Nat.mul_le_mul hn hn;omega))
     have HLE:=Kh (show ∀ W,Calls Tryz.prog 209 #[.int .i64 n,.int .i64 u,.int .i64 v] W fun e w'=>e=.returned (.bool (plst n k))∧∃ m,w'=W.drewN m from fun W=>hk▸c_least21 n u v W hlt hltv (by omega))
     have HKS:=Kh (show u*n+(v+1)=k+1 by omega)
     rw[hk]at HPT3
     clear hkn hkd hkm hk
     go_wp2_with fail
     refine(c_gcd18 u v w3 (by omega) (by omega) (by omega) (by omega)).mono ?_
     rintro e w4 ⟨rfl,m1,rfl⟩
     have hg1:Int.gcd (u:Int) (v:Int)=Nat.gcd u v:=rfl
     obtain⟨G,hG⟩:∃ G,Nat.gcd u v=G:=⟨_,rfl⟩
     have hGl:G≤1000:=by
      rw[← hG]
      rcases Nat.eq_zero_or_pos u with h|h
      ·subst h;rw[Nat.gcd_zero_left];omega
      ·exact Nat.le_trans (Nat.gcd_le_left _ h) (by omega)
     rw[hg1,hG]
     rw[hG]at HPO
     clear hg1 hG
     go_wp2_with fail
     refine(c_gcd18 G n _ (by omega) (by omega) (by omega) (by omega)).mono ?_
     rintro e w4 ⟨rfl,m2,rfl⟩
     have hg1:Int.gcd (G:Int) (n:Int)=Nat.gcd G n:=rfl
     rw[hg1,dr2]
     clear hg1
     cases hg:(Nat.gcd G n==1)with
     | false=>
      have hg2:(((Nat.gcd G n:Nat):Int)==1)=false:=by
       simp only[beq_eq_false_iff_ne]at hg
       simp;omega
      have HE:=Kh (show pts n (k+1)=pts n k by rw[HST.out,HPO.out,hg,Bool.false_and,if_neg (by decide)])
      have HPD:=Kh (HPT3.out.keep (below_drewN' (Below.refl _ w3) (m1+m2)))
      have HBD:=Kh (below_drewN' HB3.out (m1+m2))
      clear hg
      go_wp2
      go_roundw
      case rel=>exact⟨v+1,by omega,by go_num,by rw[HKS.out,HE.out];exact HPD.out,HBD.out⟩
      case measure=>simp[intOf];omega
     | true=>
      have hg2:(((Nat.gcd G n:Nat):Int)==1)=true:=by
       simp only[beq_iff_eq]at hg
       rw[hg];rfl
      have HPO2:=Kh (show pok n k=true by rw[HPO.out,hg])
      clear hg HPO
      go_wp2_with fail
      refine(HLE.out _).mono ?_
      rintro e w4 ⟨rfl,m3,rfl⟩
      rw[dr2]
      obtain⟨w5,hw5⟩:∃ w5,w3.drewN (m1+m2+m3)=w5:=⟨_,rfl⟩
      have HPD:=Kh (hw5▸HPT3.out.keep (below_drewN' (Below.refl _ w3) (m1+m2+m3)))
      have HBD:=Kh (hw5▸below_drewN' HB3.out (m1+m2+m3))
      rw[hw5]
      clear hw5 HPT3 HB3
      cases hl:plst n k with
      | false=>
       have HE:=Kh (show pts n (k+1)=pts n k by rw[HST.out,hl,Bool.and_false,if_neg (by decide)])
       clear hl
       go_wp2
       go_roundw
       case rel=>exact⟨v+1,by omega,by go_num,by rw[HKS.out,HE.out];exact HPD.out,HBD.out⟩
       case measure=>simp[intOf];omega
      | true=>
       have HE:=Kh (show pts n (k+1)=pts n k++[k]by rw[HST.out,hl,HPO2.out];rfl)
       have HKO:=Kh (show OwnK NotU32 w5 w.heap.size 177 3 u5 (pts n k).length ((pts n k).flatMap (ptc n))from HPD.out)
       clear hl
       go_wp2_with (at_builtin;refine wpl_app2 NotU32 rfl (.tmp 35) (.tmp 39) _ 177 rfl Tryz.underlying131 ptInfo rfl (by decide) w.heap.size (pts n k).length u5 ((pts n k).flatMap (ptc n)) [.int .i64 (u:Int),.int .i64 (v:Int),.int .i64 1] rfl HKO.out rfl rfl (by intro u hu;simp at hu;rcases hu with rfl|rfl|rfl <;> rfl) (by have:=HKN.out;omega) (by have:=HKN.out;omega) HBD.out.size (by intro u hu;simp at hu;rcases hu with rfl|rfl|rfl <;> exact fun _ h=>by cases h) (by intro u hu;simp[Value.cells]at hu;rcases hu with rfl|rfl|rfl <;> exact fun _ h=>by cases h) ?_;intro v9 w9 hown9 hgr9 hat9;have HO9:=Kh (show OwnPt n (pts n k++[k]) w9 w.heap.size v9 from OwnPt.push (by rw[HPC.out];exact hown9));have HB9:=Kh (own_below HBD.out HKO.out.1 hgr9 (Nat.le_refl _) HBD.out.size);clear hown9 hgr9 hat9)
       go_roundw
       case rel=>exact⟨v+1,by omega,by go_num,by rw[HKS.out,HE.out];exact HO9.out,HB9.out⟩
       case measure=>simp[intOf];omega
    ·obtain rfl:n=v:=by omega
     have HE:=Kh (show u*n+n=(u+1)*n by rw[Nat.add_mul,Nat.one_mul])
     go_wp2
     go_roundw
     case rel=>exact⟨u+1,by omega,by go_num,by rw[← HE.out];exact HPT3.out,HB3.out⟩
     case measure=>simp[intOf];omega
  ·obtain rfl:n=u:=by omega
   go_wp2
   (first|go_ret2|go_ret)
   exact⟨⟨_,rfl,HPT.out⟩,HB.out⟩
theorem c_Psi40 (n:Nat) (w:World) (h0:0<n) (hn:n≤120):
  Calls Tryz.prog 99 #[.int .i64 n] w fun e w'=>e=.returned (.int .i64 ((pts n (n*n)).length:Int))∧Below w.heap.size w w':=by
 go_enter Tryz.func99,Tryz.ntmps99
 go_wp2_with fail
 refine(c_List21 n w h0 hn).mono ?_
 rintro e w1 ⟨⟨v,rfl,hpt⟩,hb⟩
 obtain⟨p,c,rfl⟩:=own_slice hpt.1
 have HB:=Kh hb
 clear hpt hb
 go_wp2
 go_ret
 exact⟨rfl,HB.out⟩
theorem check_zero {N k D:Int} (h:Pl.check N k D=0):1≤N∧N≤120∧2≤k∧k≤24∧-120≤D∧D≤120:=by
 by_cases hr:N<1∨120<N∨k<2∨24<k∨D < -120∨120<D
 ·rw[check_range hr]at h;cases h
 ·omega
theorem c_Count40 (n wt:Nat) (D:Int) (w:World) (hck:Pl.check n ((wt:Int)+2) D=0):
  Calls Tryz.prog 54 #[.agg #[.int .i64 n,.int .i64 ((wt:Int)+2),.int .i64 D]] w fun e w'=>e=.returned (.tuple #[.int .i64 (((wt+1)*(pts n (n*n)).length:Nat):Int),.int .i64 0])∧Below w.heap.size w w':=by
 obtain⟨h1,h2,h3,h4,h5,h6⟩:=check_zero hck
 have HPS:=Kh (fun W=>c_Psi40 n W (by omega) (by omega))
 have hpl:(pts n (n*n)).length≤14400:=Nat.le_trans (pts_length n (n*n)) (by have:n*n≤120*120:=Nat.mul_le_mul (by omega) (by omega);omega)
 obtain⟨P,hP⟩:∃ P,(pts n (n*n)).length=P:=⟨_,rfl⟩
 rw[hP]at HPS hpl ⊢
 obtain⟨C,hC⟩:∃ C,(wt+1)*P=C:=⟨_,rfl⟩
 have hCl:C≤331200:=by rw[← hC];exact Nat.mul_le_mul (by omega:wt+1≤23) hpl
 obtain⟨W1,hW1⟩:∃ x,wt+1=x:=⟨_,rfl⟩
 have v0:IntKind.i64.wrap ((wt:Int)+2 - 1)=(W1:Nat):=by rw[show(wt:Int)+2 - 1=(W1:Nat)by omega];exact IntWalk.i64_in _ (by omega)
 have e1:(W1:Int)*(P:Int)=(C:Nat):=by rw[← hC,← hW1];push_cast;rfl
 have v1:IntKind.i64.wrap (C:Int)=(C:Nat):=IntWalk.i64_in _ (by omega)
 rw[hC]
 have HCK:=Kh hck
 clear hck hP hC hW1
 go_enter Tryz.func54,Tryz.ntmps54
 go_wp2_with fail
 obtain⟨w0,hw0,X0,hb0⟩:=bx1 w #[.int .i64 n,.int .i64 ((wt:Int)+2),.int .i64 D] 23
 rw[hw0]
 refine(c_Check31 n ((wt:Int)+2) D w0).mono ?_
 rintro e w1 ⟨rfl,hb1⟩
 rw[HCK.out]
 have HX1:=Kh (X0.below_ hb1 X0.lt)
 have HB1:=Kh (hb0.trans (hb1.mono hb0.size))
 obtain⟨gs,hgs⟩:∃ x,w.heap.size=x:=⟨_,rfl⟩
 rw[hgs]at HX1 ⊢
 have x0:=HX1.out.at_ 0 rfl
 have x1:=HX1.out.at_ 1 rfl
 have HGS:=Kh hgs
 clear hw0 X0 hb0 hb1 hgs
 have HS1:=Kh (show ∀ w4,Below w1.heap.size w1 w4→(w4.cell? ⟨gs,0,none⟩=some (.int .i64 (n:Int))∧w4.cell? ⟨gs,1,none⟩=some (.int .i64 ((wt:Int)+2)))from fun w4 hb=>⟨cell_next hb x0,cell_next hb x1⟩)
 have hS0:=HS1.out _ (Below.refl _ w1).drew
 have HK1:=Kh (show ∀ wb,Below w1.drew.heap.size w1.drew wb→Below w1.heap.size w1 wb from fun wb hb=>(Below.refl _ w1).drew.trans hb)
 go_upto_region 4 with(fail)
 go_region_held3 (fun w4=>w4.cell? ⟨gs,0,none⟩=some (.int .i64 (n:Int))∧w4.cell? ⟨gs,1,none⟩=some (.int .i64 ((wt:Int)+2)))
  (first|with_reducible exact hS0|with_reducible exact HS1.out _ hbN |(exfalso;assumption))
  (first
   |(go_at_call 99;with_reducible refine(HPS.out _).mono ?_;rintro e w5 ⟨rfl,hb5⟩;have hbN:Below w1.heap.size w1 w5:=HK1.out _ hb5))
 all_goals have HBN:=Kh hbN
 all_goals go_wp2
 all_goals (first|go_ret2|go_ret)
 all_goals exact⟨rfl,HB1.out.trans (HBN.out.mono HB1.out.size)⟩
theorem c_Count40_bad (N k D:Int) (w:World) (hck:Pl.check N k D≠0):
  Calls Tryz.prog 54 #[.agg #[.int .i64 N,.int .i64 k,.int .i64 D]] w fun e w'=>e=.returned (.tuple #[.int .i64 0,.int .i64 (Pl.check N k D)])∧Below w.heap.size w w':=by
 obtain⟨er,her⟩:∃ er,Pl.check N k D=er:=⟨_,rfl⟩
 have HER:=Kh her
 rw[her]at hck ⊢
 clear her
 go_enter Tryz.func54,Tryz.ntmps54
 go_wp2_with fail
 obtain⟨w0,hw0,X0,hb0⟩:=bx1 w #[.int .i64 N,.int .i64 k,.int .i64 D] 23
 rw[hw0]
 refine(c_Check31 N k D w0).mono ?_
 rintro e w1 ⟨rfl,hb1⟩
 have HB:=Kh (hb0.trans (hb1.mono hb0.size))
 rw[HER.out]
 have hne:(er != 0)=true:=by simpa using hck
 clear hw0 X0 hb0 hb1
 go_wp2
 (first|go_ret2|go_ret)
 exact⟨rfl,HB.out⟩
theorem c_Large (n wt:Nat) (D:Int) (w:World) (hck:Pl.check n ((wt:Int)+2) D=0):
  Calls Tryz.prog 18 #[.agg #[.int .i64 n,.int .i64 ((wt:Int)+2),.int .i64 D]] w fun e w'=>e=.returned (.bool (decide (72<(wt+1)*(pts n (n*n)).length)))∧Below w.heap.size w w':=by
 have HCO:=Kh (fun W=>c_Count40 n wt D W hck)
 obtain⟨C,hC⟩:∃ C,(wt+1)*(pts n (n*n)).length=C:=⟨_,rfl⟩
 rw[hC]at HCO ⊢
 clear hck hC
 go_enter Tryz.func18,Tryz.ntmps18
 go_wp2_with fail
 have hb0:Below w.heap.size w (w.alloc (.cells #[.int .i64 n,.int .i64 ((wt:Int)+2),.int .i64 D] 23)):=(Below.refl _ _).alloc (Nat.le_refl _) _
 refine(HCO.out _).mono ?_
 rintro e w1 ⟨rfl,hb1⟩
 have HB:=Kh (hb0.trans (hb1.mono hb0.size))
 clear hb0 hb1
 by_cases h:72<C
 ·have h2:(72:Int)<(C:Int):=by omega
  go_wp2
  go_ret
  exact⟨ret_b (by simp[h]),HB.out⟩
 ·have h2:¬ ((72:Int)<(C:Int)):=by omega
  go_wp2
  go_ret
  exact⟨ret_b (by simp;omega),HB.out⟩
theorem c_Large_bad (N k D:Int) (w:World) (hck:Pl.check N k D≠0):
  Calls Tryz.prog 18 #[.agg #[.int .i64 N,.int .i64 k,.int .i64 D]] w fun e w'=>e=.returned (.bool false)∧Below w.heap.size w w':=by
 have HCO:=Kh (fun W=>c_Count40_bad N k D W hck)
 have hne:(Pl.check N k D==0)=false:=by simpa using hck
 clear hck
 go_enter Tryz.func18,Tryz.ntmps18
 go_wp2_with fail
 have hb0:Below w.heap.size w (w.alloc (.cells #[.int .i64 N,.int .i64 k,.int .i64 D] 23)):=(Below.refl _ _).alloc (Nat.le_refl _) _
 refine(HCO.out _).mono ?_
 rintro e w1 ⟨rfl,hb1⟩
 have HB:=Kh (hb0.trans (hb1.mono hb0.size))
 clear hb0 hb1
 go_wp2
 go_ret
 exact⟨rfl,HB.out⟩
end Go.Proofs.YthikonjlgljikaaGreatDoor
namespace Go.Proofs.YthikonjlgljikaaGreatDoor
theorem plRow_miss {n l:Nat} {c:Int} {L:List Nat} {f:Nat→Nat×Int} {k:Nat}:∀ j,(∀ i,i<j→pmul n l (L.getD i 0)≠k)→plRow n l c L j f k=f k
 | 0,_=>rfl
 | j+1,h=>by
  rw[plRow,tset,if_neg (fun e=>h j (Nat.lt_succ_self _) e.symm)]
  exact plRow_miss j (fun i hi=>h i (by omega))
theorem plRow_hit {n l:Nat} {c:Int} {L:List Nat} {f:Nat→Nat×Int} {k i:Nat} (hk:pmul n l (L.getD i 0)=k):∀ j,i<j→(∀ i',i'<j→pmul n l (L.getD i' 0)=k→i'=i)→plRow n l c L j f k=(i,c)
 | 0,hi,_=>absurd hi (Nat.not_lt_zero _)
 | j+1,hi,h=>by
  rw[plRow,tset]
  by_cases e:k=pmul n l (L.getD j 0)
  ·rw[if_pos e,h j (Nat.lt_succ_self _) e.symm]
  ·rw[if_neg e]
   refine plRow_hit hk j ?_ (fun i' h1 h2=>h i' (by omega) h2)
   have:i≠j:=fun e2=>e (by rw[← e2,hk])
   omega
theorem pts_nodup {n:Nat} (hn:0<n):(pts n (n*n)).Nodup:=by
 rw[pts_filter hn _ (Nat.le_refl _)]
 exact List.nodup_range.filter _
theorem getD_mem {L:List Nat} {i:Nat} (hi:i<L.length):L.getD i 0∈L:=by
 rw[List.getD_eq_getElem?_getD,List.getElem?_eq_getElem hi]
 exact List.getElem_mem hi
theorem getD_inj {L:List Nat} (h:L.Nodup) {i j:Nat} (hi:i<L.length) (hj:j<L.length) (e:L.getD i 0=L.getD j 0):i=j:=by
 rw[List.getD_eq_getElem?_getD,List.getElem?_eq_getElem hi,List.getD_eq_getElem?_getD,List.getElem?_eq_getElem hj]at e
 exact(List.getElem_inj h).1 (by simpa using e)
theorem place_unique {n i j s t:Nat} (hn:0<n) (hi:i<(pts n (n*n)).length) (hj:j<(pts n (n*n)).length) (hs:pun n s=true) (ht:pun n t=true)
  (e:pmul n s ((pts n (n*n)).getD i 0)=pmul n t ((pts n (n*n)).getD j 0)):i=j∧s % n=t % n:=by
 have mi:=getD_mem hi
 have mj:=getD_mem hj
 have hik:=pts_lt mi
 obtain⟨r,_,_,ru,re⟩:=pmul_inv (k:=(pts n (n*n)).getD i 0) hik hs
 have h1:pmul n (r*t) ((pts n (n*n)).getD j 0)=(pts n (n*n)).getD i 0:=by rw[← pmul_comp hn,← e,re]
 have h2:=pts_unique mj mi (pun_mul ru ht) h1
 have hij:=getD_inj (pts_nodup hn) hi hj h2.symm
 subst hij
 exact⟨rfl,pmul_free hn (pts_ok mi).1 e⟩
theorem plAll_miss {n:Nat} {D:Int} {k:Nat} (h:∀ j s,j<(pts n (n*n)).length→1≤s→s≤n→pun n s=true→pmul n s ((pts n (n*n)).getD j 0)≠k):∀ m,m≤n→plAll n D (pts n (n*n)) m k=(0,0)
 | 0,_=>rfl
 | m+1,hm=>by
  rw[plAll]
  split
  ·rename_i hu
   rw[plRow_miss _ (fun i hi=>h i (m+1) hi (by omega) hm hu)]
   exact plAll_miss h m (by omega)
  ·exact plAll_miss h m (by omega)
theorem plAll_hit {n:Nat} {D:Int} {j s k:Nat} (hn:0<n) (hj:j<(pts n (n*n)).length) (h1:1≤s) (hsn:s≤n) (hu:pun n s=true) (e:pmul n s ((pts n (n*n)).getD j 0)=k):∀ m,s≤m→m≤n→plAll n D (pts n (n*n)) m k=(j,Pl.kroP D s)
 | 0,h,_=>by omega
 | m+1,h,hm=>by
  rw[plAll]
  by_cases hs:s=m+1
  ·subst hs
   rw[if_pos hu]
   exact plRow_hit e _ hj (fun i hi he=>(place_unique hn hi hj hu hu (he.trans e.symm)).1)
  ·have hrec:=plAll_hit hn hj h1 hsn hu e m (by omega) (by omega) (D:=D)
   split
   ·rename_i hu2
    rw[plRow_miss _ (fun i hi he=>?_)]
    ·exact hrec
    ·have h2:=(place_unique hn hi hj hu2 hu (he.trans e.symm)).2
     rcases Nat.lt_or_ge (m+1) n with h3|h3
     ·rw[Nat.mod_eq_of_lt h3,Nat.mod_eq_of_lt (by omega)]at h2
      omega
     ·obtain rfl:m+1=n:=by omega
      rw[Nat.mod_self,Nat.mod_eq_of_lt (by omega)]at h2
      omega
   ·exact hrec
def unitOf (n f:Nat):Nat:=if f=0 then n else f
theorem unitOf_mod (n f:Nat):unitOf n f % n=f % n:=by
 rw[unitOf]
 split
 ·rename_i h;rw[h,Nat.mod_self,Nat.zero_mod]
 ·rfl
theorem pun_congr {n s t:Nat} (h:s % n=t % n):pun n s=pun n t:=by
 unfold pun
 rw[Nat.gcd_comm s,Nat.gcd_comm t,Nat.gcd_rec n s,Nat.gcd_rec n t,Nat.gcd_comm (s % n),Nat.gcd_comm (t % n),h]
theorem class_hit {n wt:Nat} {D:Int} {j f k:Nat} (hck:Pl.check n ((wt:Int)+2) D=0) (hj:j<(pts n (n*n)).length) (hf:f<n) (hu:pun n f=true) (e:pmul n f ((pts n (n*n)).getD j 0)=k):plAll n D (pts n (n*n)) n k=(j,Pl.chiR n D f):=by
 obtain⟨⟨a1,a2⟩,_,⟨a3,a4⟩,a5,a6⟩:=Pl.check_ok hck
 have hn:0<n:=by omega
 have hm:=unitOf_mod n f
 have h1:1≤unitOf n f∧unitOf n f≤n:=by rw[unitOf];split <;> omega
 have hu2:pun n (unitOf n f)=true:=by rw[pun_congr hm];exact hu
 rw[plAll_hit hn hj h1.1 h1.2 hu2 (by rw[pmul_congr hm];exact e) n h1.2 (Nat.le_refl _)]
 have hg:Nat.gcd (unitOf n f) n=1:=by simpa [pun] using hu2
 have h2:=Pl.chi_eq (N:=n) (D:=D) (a:=unitOf n f) hn (by omega) a3 a4 a5 a6 (by omega) (by omega) hg
 have h3:Pl.chiR n D f=Pl.chiR n D (unitOf n f):=by rw[Pl.chiR,Pl.chiR,hm]
 rw[h3,h2]
theorem class_miss {n:Nat} {D:Int} {k:Nat} (hn:0<n) (h:∀ j f,j<(pts n (n*n)).length→f<n→pun n f=true→pmul n f ((pts n (n*n)).getD j 0)≠k):plAll n D (pts n (n*n)) n k=(0,0):=by
 refine plAll_miss (fun j s hj h1 h2 hu e=>?_) n (Nat.le_refl _)
 have h3:s % n % n=s % n:=Nat.mod_mod _ _
 exact h j (s % n) hj (Nat.mod_lt _ hn) (by rw[pun_congr h3];exact hu) (by rw[pmul_congr h3];exact e)
theorem mvd_index (u v A C:Int) (n:Nat):(u*(A % n)+v*(C % n)) % n=(u*A+v*C) % n:=by
 rw[Int.add_emod,Int.mul_emod u (A % n),Int.mul_emod v (C % n),Int.emod_emod_of_dvd A (Int.dvd_refl _),Int.emod_emod_of_dvd C (Int.dvd_refl _),← Int.mul_emod,← Int.mul_emod,← Int.add_emod]
end Go.Proofs.YthikonjlgljikaaGreatDoor
