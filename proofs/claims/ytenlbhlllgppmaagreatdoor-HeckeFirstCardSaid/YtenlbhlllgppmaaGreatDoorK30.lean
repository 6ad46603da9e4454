/- Contract of symbols.eliminate. -/
import Derived.Test.YtenlbhlllgppmaaGreatDoorK13
import Derived.Test.YtenlbhlllgppmaaGreatDoorK26
set_option linter.unusedSimpArgs false
set_option maxRecDepth 100000
set_option maxHeartbeats 8000000
namespace Go.Proofs.YtenlbhlllgppmaaGreatDoor
open Go.RowKit Eli
def rowF (C:Nat) (f:Nat→Int) (i q:Nat):Int:=if q<C then f (i*C+q)else 0
theorem rowF_small {C:Nat} {f:Nat→Int} (hf:∀ j,(f j).natAbs≤16777216) (i q:Nat):(rowF C f i q).natAbs≤16777216:=by
 unfold rowF
 split
 ·exact hf _
 ·simp
theorem msr_step {C t:Nat} {w:World} {B:Nat} {v:Value} {r:List (Nat×Rat)} (h:OwnT r w B v) (ho:Ord C (t+1) r) (ht:t<C):msr C w v<C+1 - t:=by
 cases r with
 | nil=>rw[msr_nil h];omega
 | cons y r=>rw[msr_cons h];have h1:=ho.1;have h2:=ho.2.1;omega
theorem hq_inv {x:Rat} (h:x≠0):hq (1 / x)≤hq x:=by
 have h0:x.num≠0:=fun e=>h (Rat.num_eq_zero.1 e)
 rw[← quo_over 1 x]
 have e1:(1:Rat).num=1:=rfl
 have e2:(1:Rat).den=1:=rfl
 rw[e1,e2,Int.one_mul,Int.natCast_one,Int.one_mul]
 exact hq_over h0 (by rw[Int.natAbs_natCast];exact hq_den x) (hq_num x)
theorem rowF_zero (C:Nat) (f:Nat→Int) (i q:Nat) (h:C≤q):rowF C f i q=0:=by unfold rowF;rw[if_neg (by omega)]
theorem c_eliminate (R C gA oA cA:Nat) (f:Nat→Int) (w:World) (hg:gA<w.heap.size) (hA:∀ j,j<R*C→ZE (f j) w gA (oA+j*2)) (hR:R≤1000) (h0:0<C) (hC:C≤72) (hcap:R*C≤cA) (hcap2:cA≤9223372036854775807) (hf:∀ j,(f j).natAbs≤16777216):
  Calls Tryz.prog 48 #[.agg #[.int .i64 R,.int .i64 C,.slice (some ⟨gA,oA,none⟩) (R*C:Nat) cA]] w fun e w'=>(∃ G,e=.returned (.slice (some ⟨G,0,none⟩) C C)∧w.heap.size≤G∧LeadTab (elim C (rowF C f) R) w' G C w'.heap.size)∧Below w.heap.size w w':=by
 have HA:=Kh hA
 have HCAP:=Kh (And.intro hcap hcap2)
 have HGOOD:=Kh (fun k=>Good.elim (n:=C) (B:=16777216) (by omega) (rowF_small hf) (rowF_zero C f) k)
 have HSM:=Kh (rowF_small (C:=C) hf)
 have HTOP:=Kh (top_72 (n:=C) (B:=16777216) hC (Nat.le_refl _))
 have HF:=Kh hf
 have hmk:=makeL C (by omega)
 obtain⟨RC,hRC⟩:∃ n,R*C=n:=⟨_,rfl⟩
 rw[hRC]
 clear hA hcap hcap2 hf
 go_enter Tryz.func48,Tryz.ntmps48
 go_wp2_with fail
 obtain⟨wm,hwm⟩:∃ wm,w.alloc (.cells #[.int .i64 R,.int .i64 C,.slice (some ⟨gA,oA,none⟩) RC cA] 99)=wm:=⟨_,rfl⟩
 obtain⟨X0,hbm⟩:=box1 w #[.int .i64 R,.int .i64 C,.slice (some ⟨gA,oA,none⟩) RC cA] 99
 rw[hwm]at X0 hbm
 have hsm:wm.heap.size=w.heap.size+1:=by rw[← hwm];simp
 have HT:=Kh (LeadTab.made wm C)
 obtain⟨wn,hwn⟩:∃ wn,wm.alloc (.cells (madeCells #[.slice none 0 0] C) 107)=wn:=⟨_,rfl⟩
 have hbn:Below wm.heap.size wm wn:=hwn▸(Below.refl _ _).alloc (Nat.le_refl _) _
 have hsn:wn.heap.size=wm.heap.size+1:=by rw[← hwn];simp
 rw[hwn]at HT
 rw[hwm,hwn]
 obtain⟨G,hG⟩:∃ G,w.heap.size+1=G:=⟨_,rfl⟩
 rw[hG]at hsm ⊢
 obtain⟨gm,hgm⟩:∃ gm,w.heap.size=gm:=⟨_,rfl⟩
 have HGM:=Kh (show gm<G by omega)
 have HB0:=Kh (show Below w.heap.size w wm from hbm)
 have HGW:=Kh (show w.heap.size≤G by omega)
 rw[hsm]at HT hbn hsn
 rw[hgm]at X0 ⊢
 have HX:=Kh X0
 have HBN:=Kh hbn
 have HSN:=Kh hsn
 have HAG:=Kh (Nat.lt_of_lt_of_le hg hbm.size)
 have HAM:=Kh (fun j (hj:j<R*C)=>(HA.out j hj).keep hbm)
 have HWM:=Kh hsm
 rw[hsm]at HAG
 have HT0:=Kh (HT.out.up (Nat.le_of_eq hsn.symm))
 clear X0 hwm hwn hbn hsn hbm hsm hmk HA HT hG hgm hg
 go_loopw [4] (fun i wr=>∃ k:Nat,k≤R∧i=.int .i64 k∧LeadTab (elim C (rowF C f) k) wr G C wr.heap.size∧Below G wm wr) (fun i _=>R - (intOf i).toNat)
 case atStart=>exact⟨0,Nat.zero_le _,rfl,HT0.out,HBN.out⟩
 case round=>
  obtain⟨k,hk,rfl,htab,hbr⟩:=hrel
  obtain⟨wi,rfl⟩:∃ wi:World,wi=wr:=⟨_,rfl⟩
  have HTAB:=Kh htab
  have HBR:=Kh hbr
  have x0:=(HX.out.below_ hbr HGM.out).at_ 0 rfl
  have x1:=(HX.out.below_ hbr HGM.out).at_ 1 rfl
  have x2:=(HX.out.below_ hbr HGM.out).at_ 2 rfl
  clear htab hbr HT0 HBN
  by_cases hlt:k<R
  ·obtain⟨KC,hKC⟩:∃ n,k*C=n:=⟨_,rfl⟩
   have HKR:=Kh (show KC+C≤RC by
    have h1:=Nat.mul_le_mul_right C (show k+1≤R by omega)
    rw[Nat.succ_mul]at h1
    omega)
   have e1:(k:Int)*(C:Int)=(KC:Nat):=by rw[← hKC];push_cast;rfl
   have e2:((k:Int)+1)*(C:Int)=((KC+C:Nat)):=by rw[Int.add_mul,e1];push_cast;omega
   have hcc:=HCAP.out
   rw[hRC]at hcc
   have hkr:=HKR.out
   have HKC:=Kh hKC
   have HAK:=Kh (fun j (hj:j<C)=>show ZE (rowF C f k j) wm gA (oA+KC*2+j*2)by
    have h:=HAM.out (KC+j) (by rw[hRC];omega)
    rw[show oA+(KC+j)*2=oA+KC*2+j*2 by omega]at h
    unfold rowF
    rw[if_pos hj,hKC]
    exact h)
   clear hKC
   go_wp2_with fail
   rw[show KC+C - KC=C by omega]
   have hdC:C≤cA - KC:=by omega
   clear e1 e2 hcc hkr x0 x1 x2
   have HBI:=Kh (show ∀ w1,Below wi.heap.size wi w1→Below wm.heap.size wm w1 from fun w1 hb=>HWM.out▸(HBR.out.trans (hb.mono (HWM.out▸HBR.out.size))))
   go_loopw [5,33] (fun v ii w2=>∃ j:Nat,j≤C∧ii=.int .i64 j∧OwnT (spr (rowF C f k) j) w2 wi.heap.size v∧Below wi.heap.size wi w2) (fun _ ii _=>C - (intOf ii).toNat)
   case atStart=>exact⟨0,Nat.zero_le _,rfl,OwnT.nil _ _,Below.refl _ _⟩
   case round=>
    obtain⟨j,hj,rfl,hown,hb2⟩:=hrel
    obtain⟨w2,rfl⟩:∃ w2:World,w2=wr:=⟨_,rfl⟩
    have HOWN:=Kh hown
    have HB2:=Kh hb2
    clear hown hb2
    by_cases hjc:j<C
    ·have hjci:(j:Int)<(C:Int):=by omega
     obtain⟨s,p,n,c,a0,a1,hz⟩:=(HAK.out j hjc).keep (HBI.out _ HB2.out)
     have HZ:=Kh hz
     have HN:=Kh (show n≤1 by rw[← hz.2.1];exact nd_le.2 (by have:=HSM.out k j;omega))
     clear hz
     go_wp2_with fail
     obtain⟨w3,hw3,X3,hb3⟩:=bx1 w2 #[.bool s,.slice p n c] 84
     rw[hw3]
     have HX3:=Kh X3
     have HB3:=Kh hb3
     have hbx:w2.heap.size<w3.heap.size:=by rw[← hw3];simp
     have HBX:=Kh hbx
     clear X3 hb3 hw3 a0 a1 hbx
     refine(c_Sign s p n c _ w3 (HZ.out.keep HB3.out).raw (by have:=HN.out;omega)).mono ?_
     rintro e w4 ⟨rfl,hb4⟩
     have HB24:=bt HB3 hb4
     have HB4:=Kh (HB2.out.trans (HB24.out.mono HB2.out.size))
     have y0:=(HX3.out.below_ hb4 HBX.out).at_ 0 rfl
     have y1:=(HX3.out.below_ hb4 HBX.out).at_ 1 rfl
     clear hb4
     by_cases hz0:rowF C f k j=0
     ·have hs0:Int.sign (rowF C f k j)=0:=by rw[hz0];rfl
      have HZ0:=Kh hz0
      rw[hs0]
      clear hz0 hs0
      go_wp2
      go_roundw
      case rel=>exact⟨j+1,by omega,by go_num,by rw[spr,if_pos HZ0.out];exact HOWN.out.keep HB24.out,HB4.out⟩
      case measure=>simp[intOf];omega
     ·have hs0:(Int.sign (rowF C f k j) != 0)=true:=by
       have:Int.sign (rowF C f k j)≠0:=fun e=>hz0 (Int.sign_eq_zero_iff_zero.1 e)
       simpa using this
      have HZ0:=Kh hz0
      clear hz0
      go_wp2_with fail
      refine(c_qWhole s p n c _ w4 (HZ.out.keep HB24.out) (by have:=HN.out;omega)).mono ?_
      rintro e w5 ⟨⟨s4,p4,n4,c4,t4,q4,m4,d4,rfl,hq4⟩,hb5⟩
      have HQ4:=Kh hq4
      have HB25:=bt HB24 hb5
      have HB5:=Kh (HB2.out.trans (HB25.out.mono HB2.out.size))
      obtain⟨xs,hKO,hXO⟩:=HOWN.out.keep HB25.out
      have HKO:=Kh hKO
      have HXO:=Kh hXO
      have HLN:=Kh (ord_length (ord_spr (rowF C f k) j))
      clear hq4 hb5 hKO hXO y0 y1 hs0
      go_wp2_with (at_builtin;refine wpl_app2 NotU32 rfl (.tmp 41) (.tmp 46) _ 110 rfl Tryz.underlying107 termInfo rfl (by decide) wi.heap.size (spr (rowF C f k) j).length u5 xs [.int .i64 (j:Int),.bool s4,.slice p4 n4 c4,.bool t4,.slice q4 m4 d4] rfl HKO.out rfl rfl (oneT _ _ _ _ _ _ _ _ _) (by have:=HLN.out;omega) (by have:=HLN.out;omega) HB5.out.size (nuT _ _ _ _ _ _ _ _ _) nuTz ?_;intro v9 w9 hown9 hgr9 hat9;have HO9:=Kh (OwnT.push HKO.out HXO.out j (rowF C f k j:Rat) HQ4.out hown9 hgr9);have HB9:=Kh (HB5.out.trans (own_below (Below.refl _ _) HKO.out.1 hgr9 (Nat.le_refl _) HB5.out.size));clear hown9 hgr9 hat9)
      go_roundw
      case rel=>exact⟨j+1,by omega,by go_num,by rw[spr,if_neg HZ0.out];exact HO9.out,HB9.out⟩
      case measure=>simp[intOf];omega
    ·obtain rfl:C=j:=by omega
     go_wp2
     obtain⟨L,hL⟩:∃ L,elim C (rowF C f) k=L:=⟨_,rfl⟩
     have HL:=Kh hL
     have HGL:=Kh (show Eli.Good C 16777216 L from hL▸HGOOD.out k)
     rw[hL]at HTAB
     clear hL
     go_loopw [5] (fun v w3=>∃ (m t:Nat) (r:List (Nat×Rat)),m≤t∧t≤C∧redN L m (spr (rowF C f k) C)=r∧RowOk C L (rowF C f k) t r∧OwnT r w3 wi.heap.size v∧Below wi.heap.size wi w3) (fun v w3=>msr C w3 v)
     case atStart=>exact⟨0,0,_,Nat.le_refl _,Nat.zero_le _,rfl,RowOk.first C L _ (rowF_zero C f k),HOWN.out,HB2.out⟩
     case round=>
      obtain⟨m,t0,r,hm,ht,hr,hok,hown,hb3⟩:=hrel
      obtain⟨w3,rfl⟩:∃ w3:World,w3=wr:=⟨_,rfl⟩
      have HB3:=Kh hb3
      have HRR:=Kh hr
      have HOK:=Kh hok
      have HM:=Kh (And.intro hm ht)
      clear hb3 hr HOWN HB2 hm ht
      cases r with
      | nil=>
       rcases hown.row with⟨_,rfl⟩ |⟨g,cap,rfl,_,_,_,_,_⟩
       ·have HE:=Kh (show elim C (rowF C f) (k+1)=L by
         rw[elim,HL.out,redN_still (by rw[HRR.out];rfl) C (Nat.le_trans HM.out.1 HM.out.2),HRR.out];rfl)
        clear hown hok
        go_wp2
        go_roundw
        case rel=>exact⟨k+1,by omega,by go_num,by rw[HE.out];exact(HTAB.out.keep (Nat.le_refl _) HB3.out).up HB3.out.size,HBR.out.trans (HB3.out.mono (HWM.out▸HBR.out.size))⟩
        case measure=>simp[intOf];omega
       ·have HE:=Kh (show elim C (rowF C f) (k+1)=L by
         rw[elim,HL.out,redN_still (by rw[HRR.out];rfl) C (Nat.le_trans HM.out.1 HM.out.2),HRR.out];rfl)
        clear hown hok
        go_wp2
        go_roundw
        case rel=>exact⟨k+1,by omega,by go_num,by rw[HE.out];exact(HTAB.out.keep (Nat.le_refl _) HB3.out).up HB3.out.size,HBR.out.trans (HB3.out.mono (HWM.out▸HBR.out.size))⟩
        case measure=>simp[intOf];omega
      | cons x r=>
       have HOWN:=Kh hown
       rcases hown.row with⟨he,_⟩ |⟨g,cap,rfl,hc1,hc2,hgi,hg3,htr⟩
       ·cases he
       have HTR:=Kh htr
       obtain⟨a0,s,p,n,c,t,q,m1,d,a1,a2,a3,a4,hq⟩:=htr.val 0 x rfl
       rw[Nat.zero_mul]at a0 a1 a2 a3 a4
       rw[Nat.zero_add]at a1 a2 a3 a4
       have HQX:=Kh (show Qs w3 s p n c t q m1 d x.2 from hq)
       have hxC:x.1<C:=hok.1.2.1
       have HX0:=Kh hok.1.2.2.1
       have HSZ:=Kh (hok.size HGL.out (HSM.out k)).1
       have HT3:=Kh ((HTAB.out.keep (Nat.le_refl _) HB3.out).up HB3.out.size)
       obtain⟨lv,l0,htl,hnil⟩:=HT3.out.val x.1 hxC
       have HTL:=Kh htl
       have HLEN:=Kh (show(x :: r).length≤72 from Nat.le_trans (ord_length hok.1) (by omega))
       rw[List.length_cons]at hc1 ⊢
       have hxi:(x.1:Int)<(C:Int):=by omega
       have hgt0:(0:Int)<((r.length:Int)+1):=by omega
       have hn0:(((r.length:Nat):Int)+1==0)=false:=by simp;omega
       have hG3:G<w3.heap.size:=HT3.out.stk.1
       have HCP:=Kh (And.intro hc1 hc2)
       clear hown htr hq htl
       by_cases hL0:L x.1=[]
       ·obtain rfl:=hnil hL0
        have HL0:=Kh hL0
        clear hL0 hnil hok
        go_wp2_with fail
        have HSN2:=Kh (show redN L C (spr (rowF C f k) C)=x :: r by rw[redN_still (by rw[HRR.out];exact red_still HL0.out) C (Nat.le_trans HM.out.1 HM.out.2),HRR.out])
        have HE:=Kh (show elim C (rowF C f) (k+1)=fun j=>if j=x.1 then scl (x :: r)else L j by rw[elim,HL.out,HSN2.out];rfl)
        have HIN:=Kh (hq_inv HX0.out)
        have HQS:=Kh (show hq x.2≤80 from Nat.le_trans (HSZ.out x (List.mem_cons_self ..)) HTOP.out)
        have HS1:=Kh (show ∀ w1,Below w3.heap.size w3 w1→(w1.cell? ⟨g,1,none⟩=some (.bool s)∧w1.cell? ⟨g,2,none⟩=some (.slice p n c)∧w1.cell? ⟨g,3,none⟩=some (.bool t)∧w1.cell? ⟨g,4,none⟩=some (.slice q m1 d))from fun w1 hb=>⟨cell_next hb a1,cell_next hb a2,cell_next hb a3,cell_next hb a4⟩)
        clear HM HRR HSN2 a0 a1 a2 a3 a4 l0
        go_cut [8,9]from 78 to 86 (fun v8 v9 wd=>∃ Rv s4 p4 n4 c4 t4 q4 m4 d4,v8=.pointer (some ⟨Rv,0,none⟩)∧wd.cell? ⟨Rv,0,none⟩=some (.bool s4)∧wd.cell? ⟨Rv,1,none⟩=some (.slice p4 n4 c4)∧wd.cell? ⟨Rv,2,none⟩=some (.bool t4)∧wd.cell? ⟨Rv,3,none⟩=some (.slice q4 m4 d4)∧Qs wd s4 p4 n4 c4 t4 q4 m4 d4 (1 / x.2)∧Below w3.heap.size w3 wd∧w3.heap.size≤Rv)
        case first=>
         go_region_held3 (fun w1=>w1.cell? ⟨g,1,none⟩=some (.bool s)∧w1.cell? ⟨g,2,none⟩=some (.slice p n c)∧w1.cell? ⟨g,3,none⟩=some (.bool t)∧w1.cell? ⟨g,4,none⟩=some (.slice q m1 d))
          (first|exact HS1.out _ (by first|exact(Below.refl _ w3).drew|exact Below.refl _ w3|exact((Below.refl _ w3).drew).alloc (Nat.le_refl _) _|exact(Below.refl _ w3).alloc (Nat.le_refl _) _|exact((Below.refl _ w3).alloc (Nat.le_refl _) _).drew)|with_reducible exact HS1.out _ hbB|exact HS1.out _ (hbB.alloc hsB _)|with_reducible exact HS1.out _ (below_putR hbB hRB.out _ _ _ _)|with_reducible exact HS1.out _ (below_putR hbB (Nat.le_refl _) _ _ _ _)|with_reducible exact HS1.out _ (below_putR (hbB.alloc hsB _) hsB _ _ _ _) |(exfalso;assumption))
          (first
           |(go_at_call 49;refine(c_qOf 1 _ (by omega) (by omega)).mono ?_;rintro e w4 ⟨⟨s3,p3,n3,c3,t3,q3,m3,d3,rfl,hz3⟩,hb2⟩;have hbV:Below w3.heap.size w3 w4:=Below.trans (show Below w3.heap.size w3 _ from(by first|exact(Below.refl _ w3).drew|exact Below.refl _ w3|exact((Below.refl _ w3).drew).alloc (Nat.le_refl _) _|exact(Below.refl _ w3).alloc (Nat.le_refl _) _|exact((Below.refl _ w3).alloc (Nat.le_refl _) _).drew)) (Below.mono hb2 (Below.size (show Below w3.heap.size w3 _ from(by first|exact(Below.refl _ w3).drew|exact Below.refl _ w3|exact((Below.refl _ w3).drew).alloc (Nat.le_refl _) _|exact(Below.refl _ w3).alloc (Nat.le_refl _) _|exact((Below.refl _ w3).alloc (Nat.le_refl _) _).drew))));have hbB:=hbV;have hsB:=hbV.size;(first|have fa:=freshQ (W:=w3.drew) w3.heap.size rfl hb2|have fa:=freshQ (W:=w3) w3.heap.size rfl hb2|skip))
           |(go_at_call 96;refine(c_qQuoQ s3 p3 n3 c3 t3 q3 m3 d3 1 s p n c t q m1 d x.2 _ (by first|exact hz3|exact hz3.keep ((Below.refl _ _).alloc (Nat.le_refl _) _)) (HQX.out.keep (show Below w3.heap.size w3 _ from(by first|exact hbV|exact hbV.alloc hbV.size _))) (by rw[hq_one];omega) (by have:=HQS.out;omega) HX0.out).mono ?_;rintro e w5 ⟨⟨s4,p4,n4,c4,t4,q4,m4,d4,rfl,hz4⟩,hb3⟩;have hbW:Below w3.heap.size w3 w5:=Below.trans (show Below w3.heap.size w3 _ from(by first|exact hbV|exact hbV.alloc hbV.size _)) (Below.mono hb3 (Below.size (show Below w3.heap.size w3 _ from(by first|exact hbV|exact hbV.alloc hbV.size _))));have hbB:=hbW;have hsB:=hbW.size;(first|have fa:=freshQ_next (by first|exact hb3) fa|have fa:=freshQ w4.heap.size rfl hb3|skip);have hRB:=Kh (show w3.heap.size≤w4.heap.size from hbV.size)))
         all_goals go_wp2
         all_goals go_meet
         all_goals first
          | exact⟨w5.heap.size,s4,p4,n4,c4,t4,q4,m4,d4,rfl,(Blk.new w5 86 #[.bool s4,.slice p4 n4 c4,.bool t4,.slice q4 m4 d4]).at_ 0 rfl,(Blk.new w5 86 #[.bool s4,.slice p4 n4 c4,.bool t4,.slice q4 m4 d4]).at_ 1 rfl,(Blk.new w5 86 #[.bool s4,.slice p4 n4 c4,.bool t4,.slice q4 m4 d4]).at_ 2 rfl,(Blk.new w5 86 #[.bool s4,.slice p4 n4 c4,.bool t4,.slice q4 m4 d4]).at_ 3 rfl,hz4.keep ((Below.refl _ _).alloc (Nat.le_refl _) _),hbW.alloc hbW.size _,hbW.size⟩
          |(obtain⟨E0,E1,E2,E3,hq9⟩:=rat_put fa.2.2.2.2.2.2.2.2 hz4 rfl;exact⟨_,s4,p4,n4,c4,t4,q4,m4,d4,rfl,E0,E1,E2,E3,hq9,below_putR hbW (by first|exact Nat.le_refl _|exact hbV.size) _ _ _ _,by first|exact Nat.le_refl _|exact hbV.size⟩)
        case rest=>
         obtain⟨Rv,s4,p4,n4,c4,t4,q4,m4,d4,rfl,e0,e1,e2,e3,hz,hbd,hRv⟩:=hcut
         obtain⟨wd,rfl⟩:∃ wd:World,wd=wc:=⟨_,rfl⟩
         have HZ4:=Kh hz
         have HBD:=Kh hbd
         have HRV:=Kh (show Rv≠g by omega)
         have HEC:=Kh (And.intro e0 (And.intro e1 (And.intro e2 e3)))
         have HTRD:=Kh (show TRow (sclAt (1 / x.2) 0 (x :: r)) wd g by rw[sclAt_zero];exact HTR.out.keep hbd)
         have HMS:=Kh (fun y (hy:y∈x :: r)=>show hq y.2≤80 from Nat.le_trans (HSZ.out y hy) HTOP.out)
         clear hz hbd hRv e0 e1 e2 e3 HS1 HTR
         go_wp2
         go_loopw [89] (fun ii w5=>∃ j:Nat,j≤(x :: r).length∧ii=.int .i64 j∧TRow (sclAt (1 / x.2) j (x :: r)) w5 g∧wd.grownBy w5 (some g)∧I32 wd w5) (fun ii _=>r.length+1 - (intOf ii).toNat)
         case atStart=>exact⟨0,Nat.zero_le _,rfl,HTRD.out,but_below g (Below.refl _ _),I32.refl _⟩
         case round=>
          obtain⟨j,hj,rfl,htr5,hgr,h32⟩:=hrel
          obtain⟨w5,rfl⟩:∃ w5:World,w5=wr:=⟨_,rfl⟩
          have HTR5:=Kh htr5
          have HGR:=Kh hgr
          have H32:=Kh h32
          clear htr5 hgr h32 HTRD
          by_cases hjr:j<(x :: r).length
          ·obtain⟨y,hy⟩:∃ y,(x :: r)[j]?=some y:=⟨_,List.getElem?_eq_getElem hjr⟩
           have hyl:y∈x :: r:=List.mem_of_getElem? hy
           obtain⟨_,s',p',n',c',t',q',m',d',b1,b2,b3,b4,hqy⟩:=HTR5.out.elem hy
           have HQY:=Kh (show Qs w5 s' p' n' c' t' q' m' d' y.2 from hqy)
           have z0:=HGR.out.cell HEC.out.1 (fun e=>by injection e with e;exact HRV.out e)
           have z1:=HGR.out.cell HEC.out.2.1 (fun e=>by injection e with e;exact HRV.out e)
           have z2:=HGR.out.cell HEC.out.2.2.1 (fun e=>by injection e with e;exact HRV.out e)
           have z3:=HGR.out.cell HEC.out.2.2.2 (fun e=>by injection e with e;exact HRV.out e)
           have HM1:=Kh (fun w1 (hb:Below w5.heap.size w5 w1)=>c_qMulQ s4 p4 n4 c4 t4 q4 m4 d4 (1 / x.2) s' p' n' c' t' q' m' d' y.2 w1 ((HZ4.out.i32 H32.out).keep hb) (HQY.out.keep hb) (by have:=HIN.out;have:=HQS.out;omega) (by have:=HMS.out y hyl;omega))
           have hra:=HTR5.out
           have hrl:(sclAt (1 / x.2) j (x :: r)).length=r.length+1:=by rw[sclAt_length];rfl
           have hjr2:j<r.length+1:=hjr
           have hji:(j:Int)<(r.length:Int)+1:=by omega
           have hnR:g≠Rv:=fun e=>HRV.out e.symm
           have hnR2:=HRV.out
           clear hqy
           go_upto_region 19 with(fail)
           refine rgB (fun W=>W.cell? ⟨Rv,0,none⟩=some (.bool s4)∧W.cell? ⟨Rv,1,none⟩=some (.slice p4 n4 c4)∧W.cell? ⟨Rv,2,none⟩=some (.bool t4)∧W.cell? ⟨Rv,3,none⟩=some (.slice q4 m4 d4)∧W.cell? ⟨g,j*5+1,none⟩=some (.bool s')∧W.frozen? ⟨g,j*5+1,none⟩=false∧W.cell? ⟨g,j*5+2,none⟩=some (.slice p' n' c')∧W.frozen? ⟨g,j*5+2,none⟩=false∧W.cell? ⟨g,j*5+3,none⟩=some (.bool t')∧W.frozen? ⟨g,j*5+3,none⟩=false∧W.cell? ⟨g,j*5+4,none⟩=some (.slice q' m' d')∧W.frozen? ⟨g,j*5+4,none⟩=false) (fun W hb=>⟨cnx hb z0,cnx hb z1,cnx hb z2,cnx hb z3,cnx hb b1,frozen_keep hb (by rw[b1];rfl) (hra.free _ (by omega)),cnx hb b2,frozen_keep hb (by rw[b2];rfl) (hra.free _ (by omega)),cnx hb b3,frozen_keep hb (by rw[b3];rfl) (hra.free _ (by omega)),cnx hb b4,frozen_keep hb (by rw[b4];rfl) (hra.free _ (by omega))⟩) (fun HSE hHeld0=>?_)
           clear z0 z1 z2 z3 b1 b2 b3 b4 hra
           refine tkE 0 ?_;refine tkE 1 ?_;refine tkE 2 ?_;refine tkE 3 ?_;refine tkE 4 ?_;refine tkE 5 ?_;refine tkE 6 ?_;refine tkE 7 ?_
           refine stE 8 rfl (fun K hK=>?_)
           focus(go_simp;refine(HM1.out _ (Below.refl _ w5).drew).mono ?_;rintro e w6 ⟨⟨s6,p6,n6,c6,t6,q6,m6,d6,rfl,hz6⟩,hb6⟩;have HB6:=Kh ((Below.refl _ w5).drew.trans hb6:Below w5.heap.size w5 w6);have hrr:=HTR5.out.keep HB6.out;have HPUT:=Kh (hrr.scl hy hz6);have HG6:=Kh (show ∀ v0 v1 v2 v3,wd.grownBy ((((w6.setCell ⟨g,j*5+1,none⟩ v0).setCell ⟨g,j*5+2,none⟩ v1).setCell ⟨g,j*5+3,none⟩ v2).setCell ⟨g,j*5+4,none⟩ v3) (some g)from fun _ _ _ _=>scl_grown HGR.out HB6.out);have H6:=Kh ((H32.out.trans (I32.below HB6.out)).trans (I32.putT (k:=j) hrr.stk s6 t6 p6 q6 n6 c6 m6 d6).2);clear hz6 hb6 hrr;(first|with_reducible refine hK.out _ _ ?_ (fun hHeld1=>?_) |(go_wp2_with fail;with_reducible refine hK.out _ _ ?_ (fun hHeld1=>?_))))
           focus((try dsimp only);exact HSE.out _ HB6.out)
           focus(clear hK K;(try simp only[Act.put,lsa,lsz,lss]))
           refine tkE 9 ?_;refine tkE 10 ?_
           refine laE 11 rfl (fun K hK=>?_)
           go_simp
           refine hK.out _ _ ?_
           clear hK K
           (try simp only[Act.put,lsa,lsz,lss])
           all_goals go_wp2
           all_goals go_roundw
           all_goals first
            | exact⟨j+1,hjr2,by go_num,HPUT.out,HG6.out _ _ _ _,H6.out⟩
            |(simp[intOf];omega)
          ·obtain rfl:(x :: r).length=j:=by omega
           have HFIN:=Kh (show TRow (scl (x :: r)) w5 g by
            have h:=HTR5.out
            rw[sclAt_all]at h
            exact h)
           have f0:=(HFIN.out.val 0 (x.1,1 / x.2*x.2) rfl).1
           rw[Nat.zero_mul]at f0
           have HBW:=Kh (show Below wi.heap.size wi w5 from below_but (HB3.out.trans (HBD.out.mono HB3.out.size)) HGR.out (Nat.le_trans HB3.out.size HBD.out.size) hgi)
           have H32W:=Kh (show I32 wi w5 from((I32.below (HB3.out.trans (HBD.out.mono HB3.out.size)))).trans H32.out)
           have HT5:=Kh ((HTAB.out.next H32W.out HBW.out HTAB.out.stk.1 (Nat.le_refl _)).up HBW.out.size)
           obtain⟨v5,l5,_,_⟩:=HT5.out.val x.1 hxC
           have l5f:=HT5.out.free x.1 hxC
           have hsl:(scl (x :: r)).length=r.length+1:=by rw[scl,List.length_map];rfl
           have hpt:=HT5.out.put (l:=scl (x :: r)) hxC (by rw[scl];intro e;cases e) (HFIN.out.tl (cap:=cap) (by rw[scl,List.length_map];exact HCP.out.1) HCP.out.2)
           rw[hsl]at hpt
           have HPT:=Kh hpt
           clear hpt hsl
           go_wp2
           go_roundw
           case rel=>exact⟨k+1,by omega,by go_num,by rw[HE.out];exact HPT.out.up (Nat.le_of_eq (by simp)),(HBR.out.trans (HBW.out.mono (HWM.out▸HBR.out.size))).setCell (p:=⟨G,x.1,none⟩) (Nat.le_refl _) _⟩
           case measure=>simp[intOf];omega
       ·have hLL:=HGL.out.head x.1
        obtain⟨b,hb⟩:=hLL.resolve_left hL0
        have HST:=Kh (hok.step HGL.out hL0)
        have htl:=HTL.out
        rw[hb]at htl
        obtain⟨gl,ol,cl,rfl,hcl,_,_,_,_⟩:=htl.cons
        clear htl hnil hok hL0 hLL
        go_wp2_with fail
        have HT1:=Kh (fun W (hb:Below w3.heap.size w3 W)=>(HOWN.out.tl.keep (Nat.le_refl _) hb).up hb.size)
        have HT2:=Kh (fun W (hb:Below w3.heap.size w3 W)=>(HTL.out.keep (Nat.le_refl _) hb).up hb.size)
        have HSML:=Kh (show Sml (top C 16777216) x.2 (x :: r) (L x.1)from⟨HSZ.out x (List.mem_cons_self ..),HSZ.out,HGL.out.size x.1⟩)
        have HL2:=Kh (show(L x.1).length≤72 from Nat.le_trans (ord_length (HGL.out.ord x.1)) (by omega))
        have HCALL:=Kh (fun W (hb:Below w3.heap.size w3 W)=>c_minus _ _ (x :: r) (L x.1) s p n c t q m1 d x.2 (top C 16777216) W (HT1.out W hb) (HT2.out W hb) (HQX.out.keep hb) HSML.out (by have:=HTOP.out;omega) (by have:=HL2.out;have:=HLEN.out;omega))
        rw[hb]at HCALL
        have hg3':=hg3
        clear HT1 HT2 HSML HL2
        have HS1:=Kh (show ∀ w1,Below w3.heap.size w3 w1→(w1.cell? ⟨g,0,none⟩=some (.int .i64 (x.1:Int))∧w1.cell? ⟨g,1,none⟩=some (.bool s)∧w1.cell? ⟨g,2,none⟩=some (.slice p n c)∧w1.cell? ⟨g,3,none⟩=some (.bool t)∧w1.cell? ⟨g,4,none⟩=some (.slice q m1 d)∧w1.cell? ⟨G,x.1,none⟩=some (.slice (some ⟨gl,ol,none⟩) (b.length+1) (cl+1)))from fun w1 hb=>⟨(hb.cell (p:=⟨g,0,none⟩) (hg3)).trans a0,(hb.cell (p:=⟨g,1,none⟩) (hg3)).trans a1,(hb.cell (p:=⟨g,2,none⟩) (hg3)).trans a2,(hb.cell (p:=⟨g,3,none⟩) (hg3)).trans a3,(hb.cell (p:=⟨g,4,none⟩) (hg3)).trans a4,(hb.cell (p:=⟨G,x.1,none⟩) (hG3)).trans l0⟩)
        have hbB:Below w3.heap.size w3 w3.drew:=(Below.refl _ w3).drew
        have hsB:w3.heap.size≤w3.heap.size:=Nat.le_refl _
        have hS0:w3.drew.cell? ⟨g,0,none⟩=some (.int .i64 (x.1:Int))∧w3.drew.cell? ⟨g,1,none⟩=some (.bool s)∧w3.drew.cell? ⟨g,2,none⟩=some (.slice p n c)∧w3.drew.cell? ⟨g,3,none⟩=some (.bool t)∧w3.drew.cell? ⟨g,4,none⟩=some (.slice q m1 d)∧w3.drew.cell? ⟨G,x.1,none⟩=some (.slice (some ⟨gl,ol,none⟩) (b.length+1) (cl+1)):=HS1.out _ hbB
        go_region_held3 (fun w1=>w1.cell? ⟨g,0,none⟩=some (.int .i64 (x.1:Int))∧w1.cell? ⟨g,1,none⟩=some (.bool s)∧w1.cell? ⟨g,2,none⟩=some (.slice p n c)∧w1.cell? ⟨g,3,none⟩=some (.bool t)∧w1.cell? ⟨g,4,none⟩=some (.slice q m1 d)∧w1.cell? ⟨G,x.1,none⟩=some (.slice (some ⟨gl,ol,none⟩) (b.length+1) (cl+1)))
         (first|with_reducible exact hS0|with_reducible exact HS1.out _ hbB|exact HS1.out _ (hbB.alloc hsB _))
         (first
          |(go_at_call 95;refine(HCALL.out _ (by first|exact(Below.refl _ w3).drew|exact Below.refl _ w3)).mono ?_;rintro e w4 ⟨⟨v',rfl,hown'⟩,hb4⟩;have HB34:=Kh (show Below w3.heap.size w3 w4 from(by first|exact(Below.refl _ w3).drew.trans hb4|exact hb4));have HOW4:=Kh (hown'.base (B':=wi.heap.size) (Nat.le_trans HB3.out.size (Nat.le_succ _)));clear hown' hb4;have hbB:=HB34.out;have hsB:w3.heap.size≤w4.heap.size:=hbB.size))
        all_goals go_wp2
        all_goals go_roundw
        all_goals first
         | exact⟨m+1,x.1+1,red L (x :: r),by have:=HM.out.1;have:=HOK.out.1.1;omega,by omega,by rw[redN,HRR.out],HST.out.1,by rw[HST.out.2.1,hb];exact HOW4.out,HB3.out.trans (HB34.out.mono HB3.out.size)⟩
         |(have h1:=msr_cons HOWN.out (C:=C);have h2:=msr_step (C:=C) (t:=x.1) (r:=red L (x :: r)) (by rw[HST.out.2.1,hb];exact HOW4.out) HST.out.1.1 hxC;exact Nat.lt_of_lt_of_eq h2 h1.symm)
  ·obtain rfl:k=R:=by omega
   go_wp2
   go_ret
   exact⟨⟨G,rfl,HGW.out,HTAB.out⟩,HB0.out.trans (HBR.out.mono HGW.out)⟩
end Go.Proofs.YtenlbhlllgppmaaGreatDoor
