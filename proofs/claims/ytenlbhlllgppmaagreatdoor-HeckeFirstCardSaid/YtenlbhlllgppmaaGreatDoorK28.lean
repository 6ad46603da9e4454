/- Contract of projline.List. -/
import Derived.Test.YtenlbhlllgppmaaGreatDoorK27
import Derived.Test.YtenlbhlllgppmaaGreatDoorK02
import Derived.Test.YtenlbhlllgppmaaGreatDoorK04
import Derived.Test.YtenlbhlllgppmaaGreatDoorK03
set_option maxRecDepth 100000
set_option maxHeartbeats 8000000
namespace Go.Proofs.YtenlbhlllgppmaaGreatDoor
open Go.RowKit
theorem c_level (n:Int) (w:World) (h0:0<n) (hn:n≤120):Calls Tryz.prog 186 #[.int .i64 n] w fun e w'=>e=.returned (.int .i64 0)∧w'=w:=by
 go_enter Tryz.func186,Tryz.ntmps186
 go_wp2
 go_ret
 exact⟨rfl,rfl⟩
theorem c_PList (n:Nat) (w:World) (h0:0<n) (hn:n≤120):
  Calls Tryz.prog 142 #[.int .i64 n] w fun e w'=>(∃ v,e=.returned (.tuple #[v,.int .i64 0])∧OwnPt n (pts n (n*n)) w' w.heap.size v)∧Below w.heap.size w w':=by
 obtain⟨NN,hNN⟩:∃ m,n*n=m:=⟨_,rfl⟩
 have hNl:NN≤14400:=by rw[← hNN];exact Nat.mul_le_mul hn hn
 have hnn:(n:Int)*(n:Int)=(NN:Nat):=by rw[← hNN];push_cast;rfl
 have hmk:=makeB NN (by omega)
 have HNN:=Kh hNN
 rw[hNN]
 clear hNN
 go_enter Tryz.func142,Tryz.ntmps142
 go_wp2_with fail
 refine(c_level n w (by omega) (by omega)).mono ?_
 rintro e w1 ⟨rfl,rfl⟩
 go_wp2_with fail
 go_loopw [5,6] (fun v s wr=>∃ m:Nat,m≤n∧s=.int .i64 ((m:Int)+1)∧OwnN (uns n m) wr w1.heap.size v∧Below w1.heap.size w1 wr) (fun _ s _=>n+1 - (intOf s).toNat)
 case atStart=>exact⟨0,Nat.zero_le _,rfl,OwnN.nil _ _,Below.refl _ _⟩
 case round=>
  obtain⟨m,hm,rfl,hown,hb⟩:=hrel
  obtain⟨w2,rfl⟩:∃ w2:World,w2=wr:=⟨_,rfl⟩
  have HOWN:=Kh hown
  have HB:=Kh hb
  clear hown hb
  by_cases hlt:m<n
  ·have hle:(m:Int)+1≤(n:Int):=by omega
   go_wp2_with fail
   refine(c_gcd ((m:Int)+1) n w2 (by omega) (by omega) (by omega) (by omega)).mono ?_
   rintro e w3 ⟨rfl,k,rfl⟩
   have hgc:Int.gcd ((m:Int)+1) (n:Int)=Nat.gcd (m+1) n:=by
    have:((m:Int)+1)=((m+1:Nat):Int):=by push_cast;rfl
    rw[this];rfl
   rw[hgc]
   have HBD:=Kh (below_drewN' HB.out k)
   have HOD:=Kh (HOWN.out.keep (below_drewN' (Below.refl _ w2) k))
   clear hgc
   by_cases hu:pun n (m+1)=true
   ·have hu2:(((Nat.gcd (m+1) n:Nat):Int)==1)=true:=by unfold pun at hu;simp only[beq_iff_eq]at hu;rw[hu];rfl
    have HU:=Kh hu
    have HLN:=Kh (uns_length n m)
    have HKO:=Kh (show OwnK NotU32 (w2.drewN k) w1.heap.size 3 1 u5 (uns n m).length ((uns n m).map fun n:Nat=>Value.int .i64 (n:Int))from HOD.out)
    clear hu
    go_wp2_with (at_builtin;refine wpl_app2 NotU32 rfl (.tmp 28) (.tmp 30) _ 3 rfl Tryz.underlying93 intInfo rfl (by decide) w1.heap.size (uns n m).length u5 ((uns n m).map fun n:Nat=>Value.int .i64 (n:Int)) [.int .i64 ((m:Int)+1)] rfl HKO.out rfl rfl (by intro u hu;simp at hu;subst hu;rfl) (by have:=HLN.out;omega) (by have:=HLN.out;omega) HBD.out.size (by intro u hu;simp at hu;subst hu;exact fun _ h=>by cases h) (by intro u hu;simp[Value.cells]at hu;subst hu;exact fun _ h=>by cases h) ?_;intro v9 w9 hown9 hgr9 hat9;have HO9:=Kh (show OwnN (uns n m++[m+1]) w9 w1.heap.size v9 from OwnN.push (by rw[show(((m+1:Nat):Int))=(m:Int)+1 by push_cast;rfl];exact hown9));have HB9:=Kh (HBD.out.trans (own_below (Below.refl _ _) HKO.out.1 hgr9 (Nat.le_refl _) HBD.out.size));clear hown9 hgr9 hat9)
    go_roundw
    case rel=>exact⟨m+1,by omega,by go_num,by rw[uns_succ,if_pos HU.out];exact HO9.out,HB9.out⟩
    case measure=>simp[intOf];omega
   ·have hu2:(((Nat.gcd (m+1) n:Nat):Int)==1)=false:=by
     unfold pun at hu
     simp only[beq_iff_eq]at hu
     simp;omega
    have HU:=Kh hu
    clear hu
    go_wp2
    go_roundw
    case rel=>exact⟨m+1,by omega,by go_num,by rw[uns_succ,if_neg HU.out];exact HOD.out,HBD.out⟩
    case measure=>simp[intOf];omega
  ·obtain rfl:n=m:=by omega
   go_wp2_with fail
   obtain⟨gS,hgS⟩:∃ g,w2.heap.size=g:=⟨_,rfl⟩
   have hcr:=CRow.made (z:=.bool false) (fun _ h=>by cases h) w2 NN 4
   obtain⟨wS,hwS⟩:∃ wS,w2.alloc (.cells (madeCells #[.bool false] NN) 4)=wS:=⟨_,rfl⟩
   have hbS:Below w2.heap.size w2 wS:=hwS▸(Below.refl _ _).alloc (Nat.le_refl _) _
   rw[hwS]at hcr ⊢
   obtain⟨pu,cu,hu5⟩:=own_slice (show OwnK NotU32 w2 w1.heap.size 3 1 u5 (uns n n).length _ from HOWN.out).1
   subst hu5
   have hnl:=OwnN.nl HOWN.out
   have HBW:=Kh HB.out.size
   rw[hgS]at hcr hbS hnl HBW ⊢
   have HNL:=Kh hnl
   have HBS:=Kh hbS
   have HCR:=Kh (show CRow (fun i=>.bool (pseen n (pts n 0) i)) wS gS NN from hcr.congr (fun i _=>rfl))
   have HUL:=Kh (uns_length n n)
   clear hcr hbS hnl hwS HOWN hmk
   go_loopw [7,38] (fun v ii wr=>∃ k:Nat,k≤NN∧ii=.int .i64 k∧OwnPt n (pts n k) wr (gS+1) v∧CRow (fun i=>.bool (pseen n (pts n k) i)) wr gS NN∧Below gS wS wr) (fun _ ii _=>NN - (intOf ii).toNat)
   case atStart=>exact⟨0,Nat.zero_le _,rfl,OwnPt.nil _ _ _,HCR.out,Below.refl _ _⟩
   case round=>
    obtain⟨k,hk,rfl,hpt,hcr,hbr⟩:=hrel
    obtain⟨w3,rfl⟩:∃ w3:World,w3=wr:=⟨_,rfl⟩
    have HPT:=Kh hpt
    have HC3:=Kh hcr
    have HB3:=Kh hbr
    clear hpt hbr HCR
    by_cases hkN:k<NN
    ·have hki:(k:Int)<(NN:Int):=by omega
     have hq:(k:Int).tdiv (n:Int)=((k / n:Nat):Int):=by rw[Int.tdiv_eq_ediv_of_nonneg (by omega)];rfl
     have hr:(k:Int).tmod (n:Int)=((k % n:Nat):Int):=by rw[Int.tmod_eq_emod_of_nonneg (by omega)];rfl
     have hdu:k / n<n:=Nat.div_lt_of_lt_mul (by rw[HNN.out];exact hkN)
     have hdv:k % n<n:=Nat.mod_lt _ h0
     obtain⟨u,hu⟩:∃ u,k / n=u:=⟨_,rfl⟩
     obtain⟨v,hv⟩:∃ v,k % n=v:=⟨_,rfl⟩
     rw[hu]at hq hdu
     rw[hv]at hr hdv
     have HU:=Kh hu
     have HV:=Kh hv
     have hni:(n:Int)≠0:=by omega
     have s0:=hcr.val k hkN
     clear hu hv hcr
     go_wp2_with fail
     go_quiet (fail)
     generalize hw4:w3.drewN nq=w4
     have hb4:Below w3.heap.size w3 w4:=hw4▸below_drewN' (Below.refl _ _) nq
     have s4:=cell_next hb4 s0
     have HB4:=Kh (HB3.out.trans (hb4.mono (Nat.le_of_lt HC3.out.stk.1)))
     have HPT4:=Kh (HPT.out.keep hb4)
     have HC4:=Kh (HC3.out.keep hb4)
     clear hw4 hb4 s0 HPT HC3 HB3 hq hr
     cases hs:pseen n (pts n k) k with
     | true=>
      rw[hs]at s4
      have HP:=Kh (show pts n (k+1)=pts n k by rw[pts_succ,hs];simp)
      clear hs
      go_wp2
      go_roundw
      case rel=>exact⟨k+1,by omega,by go_num,by rw[HP.out];exact HPT4.out,by rw[HP.out];exact HC4.out,HB4.out⟩
      case measure=>simp[intOf];omega
     | false=>
      rw[hs]at s4
      have HS:=Kh hs
      clear hs
      go_wp2_with fail
      refine(c_gcd u v w4 (by omega) (by omega) (by omega) (by omega)).mono ?_
      rintro e w5 ⟨rfl,m1,rfl⟩
      have hg1:Int.gcd (u:Int) (v:Int)=Nat.gcd u v:=rfl
      rw[hg1]
      have hgl:Nat.gcd u v≤n+n:=by
       rcases Nat.eq_zero_or_pos u with h|h
       ·subst h;rw[Nat.gcd_zero_left];omega
       ·have:=Nat.gcd_le_left v h;omega
      go_wp2_with fail
      refine(c_gcd ((Nat.gcd u v:Nat):Int) n _ (by omega) (by omega) (by omega) (by omega)).mono ?_
      rintro e w6 ⟨rfl,m2,rfl⟩
      have hg2:Int.gcd ((Nat.gcd u v:Nat):Int) (n:Int)=Nat.gcd (Nat.gcd u v) n:=rfl
      rw[hg2]
      generalize hw5:(w4.drewN m1).drewN m2=w5
      have hb5:Below w4.heap.size w4 w5:=hw5▸below_drewN' (below_drewN' (Below.refl _ _) m1) m2
      have HB5:=Kh (HB4.out.trans (hb5.mono (Nat.le_of_lt HC4.out.stk.1)))
      have HPT5:=Kh (HPT4.out.keep hb5)
      have HC5:=Kh (HC4.out.keep hb5)
      have HPO:=Kh (show pok n k=(Nat.gcd (Nat.gcd u v) n==1)by unfold pok;rw[HU.out,HV.out])
      clear hw5 hb5 s4 HPT4 HC4 HB4 hg1 hg2 hgl
      cases ho:(Nat.gcd (Nat.gcd u v) n==1)with
      | false=>
       have ho2:(((Nat.gcd (Nat.gcd u v) n:Nat):Int) != 1)=true:=by
        simp only[beq_eq_false_iff_ne]at ho
        simp;omega
       have HP:=Kh (show pts n (k+1)=pts n k by rw[pts_succ,HPO.out,ho];simp)
       clear ho
       go_wp2
       go_roundw
       case rel=>exact⟨k+1,by omega,by go_num,by rw[HP.out];exact HPT5.out,by rw[HP.out];exact HC5.out,HB5.out⟩
       case measure=>simp[intOf];omega
      | true=>
       have ho2:(((Nat.gcd (Nat.gcd u v) n:Nat):Int) != 1)=false:=by
        simp only[beq_iff_eq]at ho
        rw[ho];rfl
       have HP:=Kh (show pts n (k+1)=pts n k++[k]by rw[pts_succ,HPO.out,ho,HS.out];rfl)
       have HLN:=Kh (show(pts n k).length≤14400 by
        have h1:(pts n k).length≤k:=pts_length n k
        omega)
       clear ho
       go_wp2_with (at_builtin;refine wpl_app2 NotU32 rfl (.tmp 59) (.tmp 63) _ 213 rfl Tryz.underlying159 ptInfo rfl (by decide) (gS+1) (pts n k).length u7 ((pts n k).flatMap (ptc n)) [.int .i64 (u:Int),.int .i64 (v:Int),.int .i64 1] rfl HPT5.out rfl rfl (by intro u hu;simp at hu;rcases hu with rfl|rfl|rfl <;> rfl) (by have:=HLN.out;omega) (by have:=HLN.out;omega) HC5.out.stk.1 (by intro u hu;simp at hu;rcases hu with rfl|rfl|rfl <;> exact fun _ h=>by cases h) (by intro u hu;simp[Value.cells]at hu;rcases hu with rfl|rfl|rfl <;> exact fun _ h=>by cases h) ?_;intro v9 w9 hown9 hgr9 hat9;have HO9:=Kh (show OwnPt n (pts n k++[k]) w9 (gS+1) v9 from OwnPt.push (by rw[show ptc n k=[.int .i64 (u:Int),.int .i64 (v:Int),.int .i64 1]by unfold ptc;rw[HU.out,HV.out]];exact hown9));have HB9:=Kh (HB5.out.trans ((own_below (Below.refl _ _) HPT5.out.1 hgr9 (Nat.le_refl _) HC5.out.stk.1).mono (Nat.le_succ gS)));have HC9:=Kh (show CRow (fun i=>.bool (flg n (pts n k) k 0 i)) w9 gS NN from(HC5.out.grown hgr9 (fun b hb=>by have:=own_ge HPT5.out.1 hb.symm;omega)).congr (fun i _=>by rw[flg_zero]));clear hown9 hgr9 hat9)
       clear HPT5 HC5 HB5
       go_loopw [67] (fun ii w6=>∃ t:Nat,t≤(uns n n).length∧ii=.int .i64 t∧CRow (fun i=>.bool (flg n (pts n k) k t i)) w6 gS NN∧OwnPt n (pts n k++[k]) w6 (gS+1) v9∧Below gS wS w6) (fun ii _=>(uns n n).length - (intOf ii).toNat)
       case atStart=>exact⟨0,Nat.zero_le _,rfl,HC9.out,HO9.out,HB9.out⟩
       case round=>
        obtain⟨t,ht,rfl,hcr6,hpt6,hb6⟩:=hrel
        obtain⟨w6,rfl⟩:∃ w6:World,w6=wr:=⟨_,rfl⟩
        have HC6:=Kh hcr6
        have HPT6:=Kh hpt6
        have HB6:=Kh hb6
        clear hcr6 hpt6 hb6 HC9 HO9 HB9
        by_cases htl:t<(uns n n).length
        ·have hti:(t:Int)<((uns n n).length:Int):=by omega
         obtain⟨s,hs⟩:∃ s,(uns n n)[t]?=some s:=⟨_,List.getElem?_eq_getElem htl⟩
         have hsm:=uns_mem.1 (List.mem_of_getElem? hs)
         have hs1:=hsm.1
         have hs2:=hsm.2.1
         have HSE:=Kh hs
         rcases HNL.out.next (HBS.out.trans HB6.out)with⟨h0',_⟩ |⟨gU,cap',e,_,_,_,hx⟩
         ·rw[h0']at htl;simp at htl
         cases e
         have c0:=hx t s hs
         obtain⟨SU,hSU⟩:∃ x,s*u=x:=⟨_,rfl⟩
         obtain⟨SW,hSW⟩:∃ x,s*v=x:=⟨_,rfl⟩
         obtain⟨P1,hP1⟩:∃ x,SU % n=x:=⟨_,rfl⟩
         obtain⟨P2,hP2⟩:∃ x,SW % n=x:=⟨_,rfl⟩
         obtain⟨PN,hPN⟩:∃ x,P1*n=x:=⟨_,rfl⟩
         have b1:SU≤14400:=by rw[← hSU];exact Nat.mul_le_mul (by omega:s≤120) (by omega:u≤120)
         have b2:SW≤14400:=by rw[← hSW];exact Nat.mul_le_mul (by omega:s≤120) (by omega:v≤120)
         have b3:P1<n:=hP1▸Nat.mod_lt _ h0
         have b4:P2<n:=hP2▸Nat.mod_lt _ h0
         have b5:PN≤14400:=by rw[← hPN];exact Nat.mul_le_mul (by omega:P1≤120) (by omega:n≤120)
         have e1:(s:Int)*(u:Int)=(SU:Nat):=by rw[← hSU];push_cast;rfl
         have e2:(s:Int)*(v:Int)=(SW:Nat):=by rw[← hSW];push_cast;rfl
         have e3:(SU:Int).tmod (n:Int)=(P1:Nat):=by rw[Int.tmod_eq_emod_of_nonneg (by omega),← hP1];rfl
         have e4:(SW:Int).tmod (n:Int)=(P2:Nat):=by rw[Int.tmod_eq_emod_of_nonneg (by omega),← hP2];rfl
         have e5:(P1:Int)*(n:Int)=(PN:Nat):=by rw[← hPN];push_cast;rfl
         have hpm:PN+P2=pmul n s k:=by unfold pmul;rw[HU.out,HV.out,hSU,hSW,hP1,hP2,hPN]
         obtain⟨IX,hIX⟩:∃ x,PN+P2=x:=⟨_,rfl⟩
         have e6:(PN:Int)+(P2:Int)=(IX:Nat):=by omega
         have hIN:IX<NN:=by rw[← hIX,hpm,← HNN.out];exact pmul_lt h0 s k
         have hINi:(IX:Int)<(NN:Int):=by omega
         have HIX:=Kh (show IX=pmul n s k by rw[← hIX,hpm])
         have d0:=HC6.out.val IX hIN
         have d1:=HC6.out.free IX hIN
         have i0:(0:Int)≤(IX:Int):=by omega
         have v1:IntKind.i64.wrap (SU:Int)=(SU:Nat):=IntWalk.i64_in _ (by omega)
         have v2:IntKind.i64.wrap (SW:Int)=(SW:Nat):=IntWalk.i64_in _ (by omega)
         have v3:IntKind.i64.wrap (PN:Int)=(PN:Nat):=IntWalk.i64_in _ (by omega)
         have v5:IntKind.i64.wrap (P1:Int)=(P1:Nat):=IntWalk.i64_in _ (by omega)
         have v6:IntKind.i64.wrap (P2:Int)=(P2:Nat):=IntWalk.i64_in _ (by omega)
         have z1:((n:Int)==0)=false:=by simpa using hni
         have z2:n≠0:=by omega
         have v4:IntKind.i64.wrap (IX:Int)=(IX:Nat):=IntWalk.i64_in _ (by omega)
         have HCN:=Kh (show CRow (fun i=>.bool (flg n (pts n k) k (t+1) i)) (w6.setCell ⟨gS,IX,none⟩ (.bool true)).drew gS NN from(HC6.out.set IX (.bool true) (fun _ h=>by cases h) (fun i=>.bool (flg n (pts n k) k (t+1) i)) (fun i _=>by rw[flg_succ HSE.out i,← HIX.out];split <;> rfl)).keep (Below.refl _ _).drew)
         have HPN:=Kh (show OwnPt n (pts n k++[k]) (w6.setCell ⟨gS,IX,none⟩ (.bool true)).drew (gS+1) v9 from OwnPt.keep (OwnK.other HPT6.out (a:=⟨gS,IX,none⟩) (Nat.lt_succ_self gS) (fun _ h=>by cases h)) (Below.refl _ _).drew)
         have HBN:=Kh (show Below gS wS (w6.setCell ⟨gS,IX,none⟩ (.bool true)).drew from(HB6.out.setCell (p:=⟨gS,IX,none⟩) (Nat.le_refl _) _).drew)
         clear hSU hSW hP1 hP2 hPN hpm hIX hs hsm hx
         go_upto_region 21 with(fail)
         go_region_held3 (fun _=>True) (trivial) (fail)
         all_goals go_wp2
         all_goals go_roundw
         all_goals first
          | exact⟨t+1,by omega,by go_num,HCN.out,HPN.out,HBN.out⟩
          |(simp[intOf];omega)
        ·obtain rfl:(uns n n).length=t:=by omega
         have HCE:=Kh (show CRow (fun i=>.bool (pseen n (pts n k++[k]) i)) w6 gS NN from HC6.out.congr (fun i _=>by rw[flg_all]))
         go_wp2
         go_roundw
         case rel=>exact⟨k+1,by omega,by go_num,by rw[HP.out];exact HPT6.out,by rw[HP.out];exact HCE.out,HB6.out⟩
         case measure=>simp[intOf];omega
    ·obtain rfl:NN=k:=by omega
     have HFP:=Kh (show OwnPt n (pts n NN) w3 w1.heap.size u7 from by
      obtain⟨⟨e0,h1⟩,h2⟩:=HPT.out
      refine⟨⟨e0,?_⟩,h2⟩
      rcases h1 with h1 |⟨g,cap,cs,e1,hg,rest⟩
      ·exact .inl h1
      ·exact .inr ⟨g,cap,cs,e1,by have:=HBW.out;omega,rest⟩)
     have HFB:=Kh (HB.out.trans ((HBS.out.trans HB3.out).mono HBW.out))
     clear hcr
     go_wp2
     (first|go_ret2|go_ret)
     exact⟨⟨_,rfl,HFP.out⟩,HFB.out⟩
def plc (f:Nat→Nat×Int) (i:Nat):Value:=.int .i64 (if i % 2=0 then((f (i / 2)).1:Int)else(f (i / 2)).2)
theorem plc_set (f:Nat→Nat×Int) (p i:Nat) (x:Nat×Int):plc (tset f p x) i=if i=p*2+1 then .int .i64 x.2 else if i=p*2 then .int .i64 (x.1:Int)else plc f i:=by
 unfold plc tset
 by_cases h1:i=p*2+1
 ·subst h1
  rw[if_pos rfl,if_neg (by omega),show(p*2+1) / 2=p by omega,if_pos rfl]
 ·rw[if_neg h1]
  by_cases h2:i=p*2
  ·subst h2
   rw[if_pos rfl,if_pos (by omega),show p*2 / 2=p by omega,if_pos rfl]
  ·have h3:i / 2≠p:=by omega
   simp only[if_neg h2,if_neg h3]
theorem CRow.place {f:Nat→Nat×Int} {w:World} {g m p:Nat} (h:CRow (plc f) w g m) (x:Nat×Int):CRow (plc (tset f p x)) ((w.setCell ⟨g,p*2,none⟩ (.int .i64 (x.1:Int))).setCell ⟨g,p*2+1,none⟩ (.int .i64 x.2)) g m:=by
 have h1:=h.set (p*2) (.int .i64 (x.1:Int)) (fun _ h=>by cases h) (fun i=>if i=p*2 then .int .i64 (x.1:Int)else plc f i) (fun i _=>rfl)
 exact h1.set (p*2+1) (.int .i64 x.2) (fun _ h=>by cases h) _ (fun i _=>by rw[plc_set])
theorem plInfo:(Tryz.prog.info? 215).map (fun i=>(i.zero,i.size,i.bytes))=some (some (.agg #[.int .i64 0,.int .i64 0]),2,16):=by kernel_rfl
theorem made2 {z:Value} {n i:Nat} {v:Value} (h:(madeCells #[z,z] n)[i]?=some v):v=z:=by
 unfold madeCells at h
 simp only[Array.getElem?_map,Array.getElem?_range]at h
 split at h
 ·simp only[Option.map_some]at h
  injection h with h
  rw[← h]
  have h3:i % 2=0∨i % 2=1:=by omega
  show(#[z,z]:Array Value)[i % 2]! = _
  rcases h3 with h3|h3 <;> rw[h3] <;> rfl
 ·cases h
theorem makeP (n:Nat) (h:n≤1000000) (w:World):
  (Instr.makeSlice 160 (.int .i64 (n:Int)) (.int .i64 (n:Int))).run Tryz.prog w=.ok (.slice (some ⟨w.heap.size,0,none⟩) n n) (w.alloc (.cells (madeCells #[.int .i64 0,.int .i64 0] (n*2)) 215)):=by
 obtain⟨i,hi,hz0,hz1,hz2⟩:=info_parts plInfo
 have hr:=run_make (P:=Tryz.prog) w 160 215 i _ Tryz.underlying160 hi hz0 .i64 .i64 n n (by omega) (Int.le_refl _) (by rw[hz2];omega) (by omega)
 rw[Int.toNat_natCast,hz1]at hr
 exact hr
theorem CRow.places (w:World) (n:Nat):CRow (plc (fun _=>(0,0))) (w.alloc (.cells (madeCells #[.int .i64 0,.int .i64 0] (n*2)) 215)) w.heap.size (n*2):=by
 have hb:=Blk.new w 215 (madeCells #[.int .i64 0,.int .i64 0] (n*2))
 refine⟨Stk.of hb ?_,fun i _=>hb.free_ i,fun i hi=>?_⟩
 ·intro v hv
  obtain⟨i,hi⟩:=Array.getElem?_of_mem (Array.mem_toList_iff.1 hv)
  rw[made2 hi]
  exact fun _ h=>by cases h
 ·rw[hb.cell_ i,Array.getElem?_eq_getElem (by rw[size_madeCells];exact hi)]
  congr 1
  rw[made2 (Array.getElem?_eq_getElem (by rw[size_madeCells];exact hi))]
  unfold plc
  split <;> rfl
structure WorldAt (w:World) (T B n wt:Nat) (L:List Nat) (f:Nat→Nat×Int):Prop where
 lt:T<B
 c0:w.cell? ⟨T,0,none⟩=some (.int .i64 (n:Int))
 c1:w.cell? ⟨T,1,none⟩=some (.int .i64 (wt:Int))
 c2:∃ p c,w.cell? ⟨T,2,none⟩=some (.slice p L.length c)∧PtL n L w B (.slice p L.length c)
 c3:∃ g,w.cell? ⟨T,3,none⟩=some (.slice (some ⟨g,0,none⟩) (n*n) (n*n))∧g<B∧∀ i,i<n*n*2→w.cell? ⟨g,i,none⟩=some (plc f i)
theorem WorldAt.next {w w':World} {T B B' n wt:Nat} {L:List Nat} {f:Nat→Nat×Int} (h:WorldAt w T B n wt L f) (hb:Below B' w w') (hB:B≤B'):WorldAt w' T B n wt L f:=by
 have hc:∀ g i v,g<B→w.cell? ⟨g,i,none⟩=some v→w'.cell? ⟨g,i,none⟩=some v:=fun g i v hg e=>(hb.cell (p:=⟨g,i,none⟩) (Nat.lt_of_lt_of_le hg hB)).trans e
 obtain⟨p,c,e2,h2⟩:=h.c2
 obtain⟨g,e3,hg,h3⟩:=h.c3
 exact⟨h.lt,hc _ _ _ h.lt h.c0,hc _ _ _ h.lt h.c1,⟨p,c,hc _ _ _ h.lt e2,h2.next (hb.mono hB)⟩,g,hc _ _ _ h.lt e3,hg,fun i hi=>hc _ _ _ hg (h3 i hi)⟩
theorem WorldAt.keep {w w':World} {T B n wt:Nat} {L:List Nat} {f:Nat→Nat×Int} (h:WorldAt w T B n wt L f) (hB:B≤w.heap.size) (hb:Below w.heap.size w w'):WorldAt w' T B n wt L f:=h.next hb hB
theorem WorldAt.up {w:World} {T B B' n wt:Nat} {L:List Nat} {f:Nat→Nat×Int} (h:WorldAt w T B n wt L f) (hB:B≤B'):WorldAt w T B' n wt L f:=by
 obtain⟨p,c,e2,h2⟩:=h.c2
 obtain⟨g,e3,hg,h3⟩:=h.c3
 exact⟨Nat.lt_of_lt_of_le h.lt hB,h.c0,h.c1,⟨p,c,e2,h2.up hB⟩,g,e3,Nat.lt_of_lt_of_le hg hB,h3⟩
theorem PtL.but {n:Nat} {l:List Nat} {w w':World} {B G:Nat} {v:Value} (h:PtL n l w B v) (hg:w.grownBy w' (some G)) (hG:B≤G):PtL n l w' B v:=by
 rcases h with h |⟨g,cap,e,hgB,hx⟩
 ·exact .inl h
 ·have hne:∀ i,some (⟨g,i,none⟩:Addr).block≠some G:=fun i e=>by injection e with e;simp at e;omega
  exact .inr ⟨g,cap,e,hgB,fun j a ha=>by
   obtain⟨h0,h1,h2⟩:=hx j a ha
   exact⟨hg.cell h0 (hne _),hg.cell h1 (hne _),hg.cell h2 (hne _)⟩⟩
theorem c_enter_ok (n wt:Nat) (D:Int) (w:World) (hT:Tab w) (h0:0<n) (hn:n≤120) (hwt:wt≤22) (hD:-120≤D) (hD':D≤120) (hck:Pl.check n ((wt:Int)+2) D=0):
  Calls Tryz.prog 91 #[.agg #[.int .i64 n,.int .i64 ((wt:Int)+2),.int .i64 D]] w fun e w'=>(∃ T,e=.returned (.tuple #[.pointer (some ⟨T,0,none⟩),.int .i64 0])∧WorldAt w' T w'.heap.size n wt (pts n (n*n)) (plAll n D (pts n (n*n)) n))∧Below w.heap.size w w':=by
 obtain⟨L,hL⟩:∃ l,pts n (n*n)=l:=⟨_,rfl⟩
 have hLl:L.length≤n*n:=hL▸pts_length n (n*n)
 obtain⟨NN,hNN⟩:∃ m,n*n=m:=⟨_,rfl⟩
 have hNl:NN≤14400:=by rw[← hNN];exact Nat.mul_le_mul hn hn
 have hnn:(n:Int)*(n:Int)=(NN:Nat):=by rw[← hNN];push_cast;rfl
 have hmk:=makeP NN (by omega)
 have HNN:=Kh hNN
 have HTB:=Kh hT
 have HCK:=Kh hck
 have HLE:=Kh hL
 rw[hL]
 rw[hNN]at hLl
 clear hNN hT hck hL
 go_enter Tryz.func91,Tryz.ntmps91
 go_wp2_with fail
 obtain⟨w0,hw0,X0,hb0⟩:=bx1 w #[.int .i64 n,.int .i64 ((wt:Int)+2),.int .i64 D] 23
 rw[hw0]
 refine(c_Check n ((wt:Int)+2) D w0).mono ?_
 rintro e w1 ⟨rfl,hb1⟩
 rw[HCK.out]
 have X1:=X0.below_ hb1 X0.lt
 have x0:=X1.at_ 0 rfl
 have HB1:=Kh (hb0.trans (hb1.mono hb0.size))
 have HX1:=Kh X1
 clear hw0 X0 hb0 hb1 X1
 go_wp2_with fail
 refine(c_PList n w1 h0 hn).mono ?_
 rintro e w2 ⟨⟨lv,rfl,hpt⟩,hb2⟩
 obtain⟨pl,cl,hlv⟩:=own_slice hpt.1
 subst hlv
 have hptl:=hpt.ptl
 rw[HLE.out]at hptl ⊢
 have HPT:=Kh hptl
 have HX2:=Kh (bk HX1 hb2)
 have HB2:=bt HB1 hb2
 have HT2:=Kh (HTB.out.below HB2.out)
 have a0:=HX2.out.at_ 0 rfl
 have a1:=HX2.out.at_ 1 rfl
 have hsub:(wt:Int)+2 - 2=(wt:Nat):=by omega
 have hw22:(0:Int)≤(wt:Int):=by omega
 have vN:IntKind.i64.wrap (NN:Int)=(NN:Nat):=IntWalk.i64_in _ (by omega)
 have vW:IntKind.i64.wrap (wt:Int)=(wt:Nat):=IntWalk.i64_in _ (by omega)
 clear hpt hptl hb2 x0 HB1 HX1 HTB HCK
 go_upto_region 8 with(fail)
 have HS1:=Kh (show ∀ w4,Below w2.heap.size w2 w4→(w4.cell? ⟨w.heap.size,1,none⟩=some (.int .i64 ((wt:Int)+2)))from fun w4 hb=>cell_next hb a1)
 have hS0:=HS1.out _ (Below.refl _ w2).drew
 go_region_held3 (fun w4=>w4.cell? ⟨w.heap.size,1,none⟩=some (.int .i64 ((wt:Int)+2)))
  (first|with_reducible exact hS0|exact HS1.out _ ((Below.refl _ w2).drew.alloc (Nat.le_refl _) _)|exact HS1.out _ (((Below.refl _ w2).alloc (Nat.le_refl _) _).drew)|exact HS1.out _ (((Below.refl _ w2).drew.alloc (Nat.le_refl _) _).alloc (Nat.le_of_lt (by simp)) _)|exact HS1.out _ ((((Below.refl _ w2).alloc (Nat.le_refl _) _).drew).alloc (Nat.le_of_lt (by simp)) _) |(exfalso;assumption))
  (fail)
 all_goals go_wp2
 have hcr0:=CRow.places w2 NN
 obtain⟨wx,hwx⟩:∃ wx,((w2.alloc (.cells (madeCells #[.int .i64 0,.int .i64 0] (NN*2)) 215)).alloc (.cells #[.int .i64 n,.int .i64 wt,.slice pl L.length cl,.slice (some ⟨w2.heap.size,0,none⟩) NN NN] 162)).drew=wx:=⟨_,rfl⟩
 have hbm:Below w2.heap.size w2 (w2.alloc (.cells (madeCells #[.int .i64 0,.int .i64 0] (NN*2)) 215)):=(Below.refl _ _).alloc (Nat.le_refl _) _
 have hbx:Below (w2.alloc (.cells (madeCells #[.int .i64 0,.int .i64 0] (NN*2)) 215)).heap.size (w2.alloc (.cells (madeCells #[.int .i64 0,.int .i64 0] (NN*2)) 215)) wx:=hwx▸((Below.refl _ _).alloc (Nat.le_refl _) _).drew
 have hsm:(w2.alloc (.cells (madeCells #[.int .i64 0,.int .i64 0] (NN*2)) 215)).heap.size=w2.heap.size+1:=by simp
 have hcr1:=hcr0.keep hbx
 have hmb:Blk wx (w2.heap.size+1) 162 #[.int .i64 n,.int .i64 wt,.slice pl L.length cl,.slice (some ⟨w2.heap.size,0,none⟩) NN NN]:=by
  have h:=Blk.new (w2.alloc (.cells (madeCells #[.int .i64 0,.int .i64 0] (NN*2)) 215)) 162 #[.int .i64 n,.int .i64 wt,.slice pl L.length cl,.slice (some ⟨w2.heap.size,0,none⟩) NN NN]
  rw[hsm]at h
  exact hwx▸h.below_ (Below.refl _ _).drew h.lt
 have hbw:Below w2.heap.size w2 wx:=hbm.trans (hbx.mono hbm.size)
 have hxs:=bk HX2 hbw
 have hptx:=HPT.out.next hbw
 rw[hwx]
 obtain⟨gP,hgP⟩:∃ gP,w2.heap.size=gP:=⟨_,rfl⟩
 obtain⟨T,hTe⟩:∃ T,gP+1=T:=⟨_,rfl⟩
 obtain⟨gs,hgs⟩:∃ gs,w.heap.size=gs:=⟨_,rfl⟩
 have HGS:=Kh (show gs<gP by have:=HX2.out.lt;omega)
 have HWS:=Kh (show w.heap.size≤gP by have:=HB2.out.size;omega)
 rw[hgP]at hcr1 hmb hbw hptx ⊢
 rw[hTe]at hmb ⊢
 rw[hgs]at hxs ⊢
 have HCR:=Kh hcr1
 have HMB:=Kh hmb
 have HBX:=Kh hbw
 have HXS:=Kh hxs
 have HPX:=Kh hptx
 have HGT:=Kh (show T≠gP by omega)
 have HTW:=Kh (show ∀ w',wx.grownBy w' (some gP)→Tab w' from fun w' hg=>HT2.out.below (hgP▸below_but hbw hg (by have:=hbw.size;omega) (Nat.le_refl _)))
 have HGW:=Kh (show gP≤wx.heap.size by have:=hmb.lt;omega)
 have HMX:=Kh (show T<wx.heap.size from hmb.lt)
 clear hcr0 hcr1 hmb hbw hxs hptx hwx hbm hbx hsm hgP hTe hgs hmk HS1 hS0 a0 a1 HX2 HPT HT2
 go_loopw [9] (fun v wr=>∃ l1:Nat,1≤l1∧l1≤n+1∧v=.int .i64 l1∧CRow (plc (plAll n D L (l1 - 1))) wr gP (NN*2)∧wx.grownBy wr (some gP)) (fun v _=>n+1 - (intOf v).toNat)
 case atStart=>exact⟨1,Nat.le_refl _,by omega,rfl,HCR.out,but_below gP (Below.refl _ _)⟩
 case round=>
  obtain⟨l1,hl1,hl2,rfl,hcr,hgr⟩:=hrel
  obtain⟨w3,rfl⟩:∃ w3:World,w3=wr:=⟨_,rfl⟩
  have HC3:=Kh hcr
  have HG3:=Kh hgr
  clear hcr hgr HCR
  have hsg:gs≠gP:=Nat.ne_of_lt HGS.out
  by_cases hlt:l1≤n
  ·have hli:(l1:Int)≤(n:Int):=by omega
   go_wp2_with fail
   refine(c_gcd l1 n w3 (by omega) (by omega) (by omega) (by omega)).mono ?_
   rintro e w4 ⟨rfl,m1,rfl⟩
   have hg1:Int.gcd (l1:Int) (n:Int)=Nat.gcd l1 n:=rfl
   rw[hg1]
   generalize hw4:w3.drewN m1=w4
   have hb4:Below w3.heap.size w3 w4:=hw4▸below_drewN' (Below.refl _ _) m1
   have HC4:=Kh (HC3.out.keep hb4)
   have HG4:=Kh (HG3.out.trans (but_below gP hb4))
   have HAT:=Kh (show plAll n D L l1=if pun n l1 then plRow n l1 (Pl.kroP D l1) L L.length (plAll n D L (l1 - 1))else plAll n D L (l1 - 1)by
    obtain⟨l,rfl⟩:∃ l,l1=l+1:=⟨l1 - 1,by omega⟩
    rfl)
   have HPU:=Kh (show pun n l1=(Nat.gcd l1 n==1)from rfl)
   clear hw4 hb4 hg1 HC3 HG3
   cases ho:(Nat.gcd l1 n==1)with
   | false=>
    have ho2:(((Nat.gcd l1 n:Nat):Int) != 1)=true:=by
     simp only[beq_eq_false_iff_ne]at ho
     simp;omega
    have HP:=Kh (show plAll n D L l1=plAll n D L (l1 - 1)by rw[HAT.out,HPU.out,ho];rfl)
    clear ho
    go_wp2
    go_roundw
    case rel=>exact⟨l1+1,by omega,by omega,by go_num,by rw[Nat.add_sub_cancel,HP.out];exact HC4.out,HG4.out⟩
    case measure=>simp[intOf];omega
   | true=>
    have ho2:(((Nat.gcd l1 n:Nat):Int) != 1)=false:=by
     simp only[beq_iff_eq]at ho
     rw[ho];rfl
    have HP:=Kh (show plAll n D L l1=plRow n l1 (Pl.kroP D l1) L L.length (plAll n D L (l1 - 1))by rw[HAT.out,HPU.out,ho];rfl)
    have x2:=HG4.out.cell (HXS.out.at_ 2 rfl) (fun e=>by injection e with e;exact hsg e)
    clear ho
    go_wp2_with fail
    refine(c_Kronecker D l1 w4 (HTW.out w4 HG4.out) (by omega) (by omega) (by omega) (by omega)).mono ?_
    rintro e w5 ⟨rfl,rfl⟩
    obtain⟨ch,hch⟩:∃ ch,Pl.kroP D l1=ch:=⟨_,rfl⟩
    rw[hch]at HP ⊢
    clear x2 hch
    go_wp2_with fail
    have HC0:=Kh (show CRow (plc (plRow n l1 ch L 0 (plAll n D L (l1 - 1)))) w4 gP (NN*2)from HC4.out)
    go_loopw [55] (fun ii w5=>∃ j:Nat,j≤L.length∧ii=.int .i64 j∧CRow (plc (plRow n l1 ch L j (plAll n D L (l1 - 1)))) w5 gP (NN*2)∧wx.grownBy w5 (some gP)) (fun ii _=>L.length - (intOf ii).toNat)
    case atStart=>exact⟨0,Nat.zero_le _,rfl,HC0.out,HG4.out⟩
    case round=>
     obtain⟨j,hj,rfl,hcr5,hgr5⟩:=hrel
     obtain⟨w5,rfl⟩:∃ w5:World,w5=wr:=⟨_,rfl⟩
     have HC5:=Kh hcr5
     have HG5:=Kh hgr5
     clear hcr5 hgr5 HC0 HC4 HG4
     by_cases hjl:j<L.length
     ·have hji:(j:Int)<(L.length:Int):=by omega
      obtain⟨a,ha⟩:∃ a,L[j]?=some a:=⟨_,List.getElem?_eq_getElem hjl⟩
      have haN:a<n*n:=by
       have h:=List.mem_of_getElem? ha
       rw[← HLE.out]at h
       exact pts_lt h
      have hgd:L.getD j 0=a:=by rw[List.getD_eq_getElem?_getD,ha];rfl
      have HGD:=Kh hgd
      rcases HPX.out.but HG5.out (Nat.le_refl _)with⟨h0',_⟩ |⟨gL,cap',e,hgL,hx⟩
      ·rw[h0']at hjl;simp at hjl
      cases e
      obtain⟨p0,p1,p2⟩:=hx j a ha
      have hdu:a / n<n:=Nat.div_lt_of_lt_mul haN
      have hdv:a % n<n:=Nat.mod_lt _ h0
      obtain⟨u,hu⟩:∃ u,a / n=u:=⟨_,rfl⟩
      obtain⟨v,hv⟩:∃ v,a % n=v:=⟨_,rfl⟩
      rw[hu]at p0 hdu
      rw[hv]at p1 hdv
      have HU:=Kh hu
      have HV:=Kh hv
      clear hu hv hgd ha haN hx
      go_wp2_with fail
      obtain⟨wb,hwb⟩:∃ wb,w5.alloc (.cells #[.int .i64 (u:Int),.int .i64 (v:Int),.int .i64 1] 213)=wb:=⟨_,rfl⟩
      have hbb:Below w5.heap.size w5 wb:=hwb▸(Below.refl _ _).alloc (Nat.le_refl _) _
      have X:=hwb▸Blk.new w5 213 #[.int .i64 (u:Int),.int .i64 (v:Int),.int .i64 1]
      rw[hwb]
      obtain⟨gb,hgb⟩:∃ gb,w5.heap.size=gb:=⟨_,rfl⟩
      rw[hgb]at X ⊢
      have hTb:T≠gP:=HGT.out
      have hgbP:gb≠gP:=by have:=HG5.out.size;have:=HGW.out;have:=HC5.out.stk.1;omega
      obtain⟨SU,hSU⟩:∃ x,l1*u=x:=⟨_,rfl⟩
      obtain⟨SW,hSW⟩:∃ x,l1*v=x:=⟨_,rfl⟩
      obtain⟨P1,hP1⟩:∃ x,SU % n=x:=⟨_,rfl⟩
      obtain⟨P2,hP2⟩:∃ x,SW % n=x:=⟨_,rfl⟩
      obtain⟨PN,hPN⟩:∃ x,P1*n=x:=⟨_,rfl⟩
      have q1:SU≤14400:=by rw[← hSU];exact Nat.mul_le_mul (by omega:l1≤120) (by omega:u≤120)
      have q2:SW≤14400:=by rw[← hSW];exact Nat.mul_le_mul (by omega:l1≤120) (by omega:v≤120)
      have q3:P1<n:=hP1▸Nat.mod_lt _ h0
      have q4:P2<n:=hP2▸Nat.mod_lt _ h0
      have q5:PN≤14400:=by rw[← hPN];exact Nat.mul_le_mul (by omega:P1≤120) (by omega:n≤120)
      have e1:(l1:Int)*(u:Int)=(SU:Nat):=by rw[← hSU];push_cast;rfl
      have e2:(l1:Int)*(v:Int)=(SW:Nat):=by rw[← hSW];push_cast;rfl
      have e3:(SU:Int).tmod (n:Int)=(P1:Nat):=by rw[Int.tmod_eq_emod_of_nonneg (by omega),← hP1];rfl
      have e4:(SW:Int).tmod (n:Int)=(P2:Nat):=by rw[Int.tmod_eq_emod_of_nonneg (by omega),← hP2];rfl
      have e5:(P1:Int)*(n:Int)=(PN:Nat):=by rw[← hPN];push_cast;rfl
      have hpm:PN+P2=pmul n l1 a:=by unfold pmul;rw[HU.out,HV.out,hSU,hSW,hP1,hP2,hPN]
      obtain⟨IX,hIX⟩:∃ x,PN+P2=x:=⟨_,rfl⟩
      have e6:(PN:Int)+(P2:Int)=(IX:Nat):=by omega
      have hIN:IX<NN:=by rw[← hIX,hpm,← HNN.out];exact pmul_lt h0 l1 a
      have hINi:(IX:Int)<(NN:Int):=by omega
      have HIX:=Kh (show IX=pmul n l1 a by rw[← hIX,hpm])
      have hcb:=HC5.out.keep hbb
      have d0:=hcb.val (IX*2) (by omega)
      have d1:=hcb.free (IX*2) (by omega)
      have d2:=hcb.val (IX*2+1) (by omega)
      have d3:=hcb.free (IX*2+1) (by omega)
      have hni:(n:Int)≠0:=by omega
      have z1:((n:Int)==0)=false:=by simpa using hni
      have z2:n≠0:=by omega
      have i0:(0:Int)≤(IX:Int):=by omega
      have v1:IntKind.i64.wrap (SU:Int)=(SU:Nat):=IntWalk.i64_in _ (by omega)
      have v2:IntKind.i64.wrap (SW:Int)=(SW:Nat):=IntWalk.i64_in _ (by omega)
      have v3:IntKind.i64.wrap (PN:Int)=(PN:Nat):=IntWalk.i64_in _ (by omega)
      have v5:IntKind.i64.wrap (P1:Int)=(P1:Nat):=IntWalk.i64_in _ (by omega)
      have v6:IntKind.i64.wrap (P2:Int)=(P2:Nat):=IntWalk.i64_in _ (by omega)
      have v4:IntKind.i64.wrap (IX:Int)=(IX:Nat):=IntWalk.i64_in _ (by omega)
      have hgx:=HG5.out.trans (but_below gP hbb)
      have b0:=X.at_ 0 rfl
      have b1:=X.at_ 1 rfl
      have t3:=hgx.cell (HMB.out.at_ 3 rfl) (fun e=>by injection e with e;exact hTb e)
      have hS0:wb.drew.cell? ⟨T,3,none⟩=some (.slice (some ⟨gP,0,none⟩) NN NN)∧wb.drew.cell? ⟨gb,0,none⟩=some (.int .i64 (u:Int))∧wb.drew.cell? ⟨gb,1,none⟩=some (.int .i64 (v:Int)):=⟨t3,b0,b1⟩
      have HSA:=Kh (show ∀ (X:World) (i j:Nat) (v1 v2:Value),(X.cell? ⟨T,3,none⟩=some (.slice (some ⟨gP,0,none⟩) NN NN)∧X.cell? ⟨gb,0,none⟩=some (.int .i64 (u:Int))∧X.cell? ⟨gb,1,none⟩=some (.int .i64 (v:Int)))→(((X.setCell ⟨gP,i,none⟩ v1).setCell ⟨gP,j,none⟩ v2).cell? ⟨T,3,none⟩=some (.slice (some ⟨gP,0,none⟩) NN NN)∧((X.setCell ⟨gP,i,none⟩ v1).setCell ⟨gP,j,none⟩ v2).cell? ⟨gb,0,none⟩=some (.int .i64 (u:Int))∧((X.setCell ⟨gP,i,none⟩ v1).setCell ⟨gP,j,none⟩ v2).cell? ⟨gb,1,none⟩=some (.int .i64 (v:Int)))from fun X i j v1 v2 h=>⟨by rw[World.cell?_setCell_far _ _ _ _ (by exact hTb.symm),World.cell?_setCell_far _ _ _ _ (by exact hTb.symm)];exact h.1,by rw[World.cell?_setCell_far _ _ _ _ (by exact hgbP.symm),World.cell?_setCell_far _ _ _ _ (by exact hgbP.symm)];exact h.2.1,by rw[World.cell?_setCell_far _ _ _ _ (by exact hgbP.symm),World.cell?_setCell_far _ _ _ _ (by exact hgbP.symm)];exact h.2.2⟩)
      have HCB:=Kh hcb
      have HGB:=Kh hgx
      clear hSU hSW hP1 hP2 hPN hpm hIX hcb hgx X hwb hbb b0 b1 t3 p0 p1 p2 hgb
      go_upto_region 17 with(fail)
      go_region_held3 (fun w'=>w'.cell? ⟨T,3,none⟩=some (.slice (some ⟨gP,0,none⟩) NN NN)∧w'.cell? ⟨gb,0,none⟩=some (.int .i64 (u:Int))∧w'.cell? ⟨gb,1,none⟩=some (.int .i64 (v:Int)))
       (first|with_reducible exact hS0|exact HSA.out _ _ _ _ _ hS0)
       (fail)
      all_goals go_wp2
      all_goals go_roundw
      all_goals first
       | exact⟨j+1,by omega,by go_num,by rw[plRow,HGD.out,← HIX.out];exact(HCB.out.place (p:=IX) (j,ch)).keep (Below.refl _ _).drew,(HGB.out.trans ((but_put wb gP _ _).trans (but_put _ gP _ _))).trans (but_below gP (Below.refl _ _).drew)⟩
       |(simp[intOf];omega)
     ·obtain rfl:L.length=j:=by omega
      go_wp2
      go_roundw
      case rel=>exact⟨l1+1,by omega,by omega,by go_num,by rw[Nat.add_sub_cancel,HP.out];exact HC5.out,HG5.out⟩
      case measure=>simp[intOf];omega
  ·obtain rfl:n+1=l1:=by omega
   have hgt:¬ ((n:Int)+1≤(n:Int)):=by omega
   have hTP:T≠gP:=HGT.out
   have hsz:=HG3.out.size
   have HWA:=Kh (show WorldAt w3 T w3.heap.size n wt L (plAll n D L n)from
    ⟨by have:=HMX.out;omega,HG3.out.cell (HMB.out.at_ 0 rfl) (fun e=>by injection e with e;exact hTP e),HG3.out.cell (HMB.out.at_ 1 rfl) (fun e=>by injection e with e;exact hTP e),
     ⟨pl,cl,HG3.out.cell (HMB.out.at_ 2 rfl) (fun e=>by injection e with e;exact hTP e),(HPX.out.but HG3.out (Nat.le_refl _)).up (Nat.le_trans HGW.out hsz)⟩,
     gP,by rw[HNN.out];exact HG3.out.cell (HMB.out.at_ 3 rfl) (fun e=>by injection e with e;exact hTP e),HC3.out.stk.1,fun i hi=>HC3.out.val i (by rw[← HNN.out];exact hi)⟩)
   have HBE:=Kh (show Below w.heap.size w w3 from below_but (HB2.out.trans (HBX.out.mono HWS.out)) HG3.out (Nat.le_trans HWS.out HGW.out) HWS.out)
   clear hsz
   go_wp2
   (first|go_ret2|go_ret)
   exact⟨⟨T,rfl,HWA.out⟩,HBE.out⟩
theorem c_enter_bad (N k D:Int) (w:World) (hck:Pl.check N k D≠0):
  Calls Tryz.prog 91 #[.agg #[.int .i64 N,.int .i64 k,.int .i64 D]] w fun e w'=>e=.returned (.tuple #[.pointer none,.int .i64 (Pl.check N k D)])∧Below w.heap.size w w':=by
 obtain⟨er,her⟩:∃ er,Pl.check N k D=er:=⟨_,rfl⟩
 have HER:=Kh her
 rw[her]at hck ⊢
 clear her
 go_enter Tryz.func91,Tryz.ntmps91
 go_wp2_with fail
 obtain⟨w0,hw0,X0,hb0⟩:=bx1 w #[.int .i64 N,.int .i64 k,.int .i64 D] 23
 rw[hw0]
 refine(c_Check N k D w0).mono ?_
 rintro e w1 ⟨rfl,hb1⟩
 have HB:=Kh (hb0.trans (hb1.mono hb0.size))
 rw[HER.out]
 have hne:(er != 0)=true:=by simpa using hck
 clear hw0 X0 hb0 hb1
 go_wp2
 (first|go_ret2|go_ret)
 exact⟨rfl,HB.out⟩
end Go.Proofs.YtenlbhlllgppmaaGreatDoor
