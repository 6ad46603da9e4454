/- Contract of Vector: the coordinates of a combination. -/
import Derived.Test.YtenlbhlllgppmaaGreatDoorK27
import Derived.Test.YtenlbhlllgppmaaGreatDoorK22
import Derived.Test.YtenlbhlllgppmaaGreatDoorK20
import Derived.Test.YtenlbhlllgppmaaGreatDoorK37
import Derived.Deep.Upon
import Derived.Test.YtenlbhlllgppmaaGreatDoorK13
import Derived.Test.YtenlbhlllgppmaaGreatDoorK33
import Derived.Test.YtenlbhlllgppmaaGreatDoorK35
set_option linter.unusedSimpArgs false
set_option maxRecDepth 100000
set_option maxHeartbeats 8000000
namespace Go.Proofs.YtenlbhlllgppmaaGreatDoor
open Go.RowKit Eli
def vecS (V:Nat→Rat) (X:Nat→Nat→Rat) (k f:Nat):Rat:=sumQ (fun n=>V n*X n f) k
theorem vecS_zero (V:Nat→Rat) (X:Nat→Nat→Rat) (f:Nat):vecS V X 0 f=0:=rfl
theorem vecS_succ (V:Nat→Rat) (X:Nat→Nat→Rat) (k f:Nat):vecS V X (k+1) f=vecS V X k f+V k*X k f:=rfl
theorem vecS_size {V:Nat→Rat} {X:Nat→Nat→Rat} {A B f:Nat}:∀ (k:Nat),(∀ j,j<k→hq (V j)≤A)→(∀ j,j<k→hq (X j f)≤B)→hq (vecS V X k f)≤1+k*(A+B+1)
 | 0,_,_=>by rw[vecS_zero,hq_zero];omega
 | k+1,h1,h2=>by
  rw[vecS_succ]
  have h3:=vecS_size k (fun j hj=>h1 j (by omega)) (fun j hj=>h2 j (by omega))
  have h4:=hq_add (vecS V X k f) (V k*X k f)
  have h5:=hq_mul (V k) (X k f)
  have h6:=h1 k (by omega)
  have h7:=h2 k (by omega)
  rw[Nat.add_mul,Nat.one_mul]
  omega
theorem c_Vector (M B:Nat) (N kk D:Int) (F:List Nat) (C:Nat) (X:Nat→Nat→Rat) (v:Value) (V:Nat→Rat) (w:World) (h:ModAt w M B N kk D F C X) (hB:B≤w.heap.size) (hv:QL (fun j=>IsQ (V j)) w v C) (hC0:0<C) (hC:C≤1000) (hFl:F.length≤1000)
  (hV:∀ j,j<C→hq (V j)≤10000) (hX:∀ j f,j<C→f∈F→hq (X j f)≤10000):
  Calls Tryz.prog 101 #[.pointer (some ⟨M,0,none⟩),v] w fun e w'=>(∃ g,e=.returned (.tuple #[.slice (some ⟨g,0,none⟩) F.length F.length,.int .i64 0])∧w.heap.size≤g∧QRow (fun i=>IsQ (vecS V X C (F.getD i 0))) w' g F.length F.length)∧Below w.heap.size w w':=by
 obtain⟨gv,ov,cv,rfl,hgv,hve⟩:=hv.resolve_left (fun h=>by omega)
 obtain⟨vf,c3,h3⟩:=h.c3
 obtain⟨pf,cf,rfl⟩:=h3.val
 obtain⟨GR,c4,hGR,h4⟩:=h.c4
 have hML:M<w.heap.size:=Nat.lt_of_lt_of_le h.lt hB
 have hGRL:GR<w.heap.size:=Nat.lt_of_lt_of_le hGR hB
 have HMEM:=Kh (show ∀ i,i<F.length→F.getD i 0∈F from fun i hi=>by rw[List.getD_eq_getElem?_getD,List.getElem?_eq_getElem hi];exact List.getElem_mem hi)
 have HR4:=Kh (show ∀ j,j<C→∃ g,w.cell? ⟨GR,j,none⟩=some (.slice (some ⟨g,0,none⟩) F.length F.length)∧g<w.heap.size∧∀ i,i<F.length→QE (IsQ (X j (F.getD i 0))) w g (0+i*4)from fun j hj=>by
  obtain⟨g,e,hg,hq⟩:=h4 j hj
  exact⟨g,e,Nat.lt_of_lt_of_le hg hB,fun i hi=>by rw[Nat.zero_add];exact hq i _ (by rw[List.getD_eq_getElem?_getD,List.getElem?_eq_getElem hi];rfl)⟩)
 have HVE:=Kh hve
 have HV:=Kh hV
 have HX:=Kh hX
 have HC3:=Kh c3
 have HC4:=Kh c4
 have hmk:=makeQ F.length (by omega)
 clear hV hX hve h4 h3 h hv hGR
 go_enter Tryz.func101,Tryz.ntmps101
 go_wp2_with fail
 have hrm:=QRow.made (fun _=>IsQ 0) w F.length
 obtain⟨w0,hw0⟩:∃ w0,w.alloc (.cells (madeCells #[.bool false,.slice none 0 0,.bool false,.slice none 0 0] (F.length*4)) 86)=w0:=⟨_,rfl⟩
 have hb0:Below w.heap.size w w0:=hw0▸(Below.refl _ _).alloc (Nat.le_refl _) _
 rw[hw0]at hrm ⊢
 have HRM:=Kh hrm
 have HB0:=Kh hb0
 obtain⟨G,hG⟩:∃ G,w.heap.size=G:=⟨_,rfl⟩
 rw[hG]at HRM HB0 hML hGRL hgv ⊢
 have HGE:=Kh hG
 clear hrm hb0 hw0 hG hmk c3 c4
 go_loopw [28] (fun ii wr=>∃ k:Nat,k≤F.length∧ii=.int .i64 k∧QRow (fun _=>IsQ 0) wr G F.length k∧Below G w wr) (fun ii _=>F.length - (intOf ii).toNat)
 case atStart=>exact⟨0,Nat.zero_le _,rfl,HRM.out,HB0.out⟩
 case round=>
  obtain⟨k,hk,rfl,hrow,hb1⟩:=hrel
  obtain⟨w1,rfl⟩:∃ w1:World,w1=wr:=⟨_,rfl⟩
  have HROW:=Kh hrow
  have HB1:=Kh hb1
  clear hrow hb1 HRM HB0
  by_cases hlt:k<F.length
  ·have hki:(k:Int)<(F.length:Int):=by omega
   go_wp2_with fail
   refine(c_qOf 0 w1 (by omega) (by omega)).mono ?_
   rintro e w3 ⟨⟨s3,p3,n3,c3,t3,q3,m3,d3,rfl,hq3⟩,hb3⟩
   have hr3:=QRow.keep (fun _=>IsQ.solid _) HROW.out hb3
   have HQA:=Kh (QRow.set (k':=k+1) (fun _=>IsQ.solid _) hr3 k hlt (fun _=>IsQ 0) (IsQ.solid _) (fun i' h1 h2=>⟨by omega,rfl⟩) (show IsQ 0 w3 s3 p3 n3 c3 t3 q3 m3 d3 from hq3))
   have HB3:=Kh (HB1.out.trans (hb3.mono (Nat.le_of_lt HROW.out.sts.1)))
   obtain⟨u0,hu0⟩:=Option.isSome_iff_exists.1 (hr3.has (k*4) (by omega))
   obtain⟨u1,hu1⟩:=Option.isSome_iff_exists.1 (hr3.has (k*4+1) (by omega))
   obtain⟨u2,hu2⟩:=Option.isSome_iff_exists.1 (hr3.has (k*4+2) (by omega))
   obtain⟨u3,hu3⟩:=Option.isSome_iff_exists.1 (hr3.has (k*4+3) (by omega))
   have f0:=hr3.free (k*4) (by omega)
   have f1:=hr3.free (k*4+1) (by omega)
   have f2:=hr3.free (k*4+2) (by omega)
   have f3:=hr3.free (k*4+3) (by omega)
   clear hq3 hb3 hr3
   go_wp2
   go_roundw
   case rel=>exact⟨k+1,by omega,by go_num,HQA.out,below_put4g HB3.out⟩
   case measure=>simp[intOf];omega
  ·obtain rfl:F.length=k:=by omega
   have HROW0:=Kh (show QRow (fun i=>IsQ (vecS V X 0 (F.getD i 0))) w1 G F.length F.length from QRow.congr HROW.out (fun i _=>by rw[vecS_zero]))
   clear HROW
   go_wp2_with fail
   go_loopw [38] (fun ii wr=>∃ k:Nat,k≤C∧ii=.int .i64 k∧QRow (fun i=>IsQ (vecS V X k (F.getD i 0))) wr G F.length F.length∧Below G w wr) (fun ii _=>C - (intOf ii).toNat)
   case atStart=>exact⟨0,Nat.zero_le _,rfl,HROW0.out,HB1.out⟩
   case round=>
    obtain⟨k,hk,rfl,hrow,hb2⟩:=hrel
    obtain⟨w2,rfl⟩:∃ w2:World,w2=wr:=⟨_,rfl⟩
    have HROW:=Kh hrow
    have HB2:=Kh hb2
    clear hrow hb2 HROW0 HB1
    by_cases hkC:k<C
    ·have hki:(k:Int)<(C:Int):=by omega
     have hb2:=HB2.out
     rw[← HGE.out]at hb2
     obtain⟨s,p,n5,c5,t,q,m5,d5,a0,a1,a2,a3,hx⟩:=(HVE.out k hkC).keep (IsQ.solid _) hb2
     have HQ2:=Kh (show Qs w2 s p n5 c5 t q m5 d5 (V k)from hx)
     clear hx hb2
     go_wp2_with fail
     obtain⟨w3,hw3⟩:∃ w3,w2.alloc (.cells #[.bool s,.slice p n5 c5,.bool t,.slice q m5 d5] 86)=w3:=⟨_,rfl⟩
     have hb3:Below w2.heap.size w2 w3:=hw3▸(Below.refl _ _).alloc (Nat.le_refl _) _
     have X3:=hw3▸Blk.new w2 86 #[.bool s,.slice p n5 c5,.bool t,.slice q m5 d5]
     rw[hw3]
     obtain⟨gx,hgx⟩:∃ gx,w2.heap.size=gx:=⟨_,rfl⟩
     have HGX:=Kh (show gx≠G by have:=HROW.out.sts.1;omega)
     rw[hgx]at X3 ⊢
     refine(c_qSignQ s p n5 c5 t q m5 d5 (V k) w3 (HQ2.out.keep hb3) (by have:=HV.out k hkC;omega)).mono ?_
     rintro e w4 ⟨⟨sg,rfl,hsg⟩,hb4⟩
     have hb24:=hb3.trans (hb4.mono hb3.size)
     have HSG:=Kh hsg
     have HROW4:=Kh (QRow.keep (fun _=>IsQ.solid _) HROW.out hb24)
     have HB4:=Kh (HB2.out.trans (hb24.mono (Nat.le_of_lt HROW.out.sts.1)))
     have HX4:=Kh (X3.below_ hb4 X3.lt)
     have HQ4:=Kh (HQ2.out.keep hb24)
     clear hw3 hb3 X3 hgx hsg hb4 hb24 a0 a1 a2 a3 HROW HB2 HQ2
     by_cases hz:V k=0
     ·obtain rfl:sg=0:=HSG.out.2 hz
      have HSK:=Kh (show QRow (fun i=>IsQ (vecS V X (k+1) (F.getD i 0))) w4 G F.length F.length from QRow.congr HROW4.out (fun i _=>by rw[vecS_succ,hz,Rat.zero_mul,Rat.add_zero]))
      clear hz
      go_wp2
      go_roundw
      case rel=>exact⟨k+1,by omega,by go_num,HSK.out,HB4.out⟩
      case measure=>simp[intOf];omega
     ·have h0:(sg != 0)=true:=by
       have:sg≠0:=fun e=>hz (HSG.out.1 e)
       simpa using this
      obtain⟨gr,rr,hgr,hrq⟩:=HR4.out k hkC
      rw[HGE.out]at hgr
      have HRQ:=Kh (show ∀ W,Below G w W→∀ i,i<F.length→QE (IsQ (X k (F.getD i 0))) W gr (0+i*4)from fun W hb i hi=>(hrq i hi).keep (IsQ.solid _) (by rw[HGE.out];exact hb))
      have HGRN:=Kh (show gr<G from hgr)
      have m4:=(HB4.out.cell (p:=⟨M,4,none⟩) hML).trans HC4.out
      have r4:=(HB4.out.cell (p:=⟨GR,k,none⟩) hGRL).trans rr
      have b0:=HX4.out.at_ 0 rfl
      have b1:=HX4.out.at_ 1 rfl
      have b2:=HX4.out.at_ 2 rfl
      have b3:=HX4.out.at_ 3 rfl
      have HS1:=Kh (show ∀ w',Below w4.heap.size w4 w'→(w'.cell? ⟨gx,0,none⟩=some (.bool s)∧w'.cell? ⟨gx,1,none⟩=some (.slice p n5 c5)∧w'.cell? ⟨gx,2,none⟩=some (.bool t)∧w'.cell? ⟨gx,3,none⟩=some (.slice q m5 d5)∧w'.cell? ⟨M,4,none⟩=some (.slice (some ⟨GR,0,none⟩) C C)∧w'.cell? ⟨GR,k,none⟩=some (.slice (some ⟨gr,0,none⟩) F.length F.length))from fun w' hb=>⟨cell_next hb b0,cell_next hb b1,cell_next hb b2,cell_next hb b3,cell_next hb m4,cell_next hb r4⟩)
      have hS0:=HS1.out _ (Below.refl _ w4).drew
      have HNE:=Kh (show gx≠G∧M≠G∧GR≠G from⟨HGX.out,by omega,by omega⟩)
      have HSZ:=Kh (show ∀ f,f<F.length→hq (vecS V X k (F.getD f 0))≤100000000 from fun f hf=>by
       have h1:=vecS_size (f:=F.getD f 0) k (fun j hj=>HV.out j (by omega)) (fun j hj=>HX.out j _ (by omega) (HMEM.out f hf))
       have h2:k*(10000+10000+1)≤1000*(10000+10000+1):=Nat.mul_le_mul_right _ (by omega)
       omega)
      have HAD:=Kh (c_addTo G F.length F.length (.slice (some ⟨gr,0,none⟩) F.length F.length) (fun i=>vecS V X k (F.getD i 0)) (fun i=>X k (F.getD i 0)) s p n5 c5 t q m5 d5 (V k) w4.drew (HROW4.out.keep (fun _=>IsQ.solid _) (Below.refl _ w4).drew) (.inr ⟨gr,0,F.length,rfl,Nat.ne_of_lt HGRN.out,by have:=HROW4.out.sts.1;have:=HGRN.out;show gr<w4.heap.size;omega,fun f hf=>HRQ.out _ HB4.out.drew f hf⟩) (HQ4.out.keep (Below.refl _ w4).drew) (by have:=HV.out k hkC;omega) (fun f hf=>⟨HSZ.out f hf,by have:=HX.out k _ hkC (HMEM.out f hf);omega⟩) (by omega))
      have HK1:=Kh (show ∀ w',w4.drew.grownBy w' (some G)→Below G w w' from fun w' hg=>below_but HB4.out.drew hg (by have:=HROW4.out.sts.1;show G≤w4.heap.size;omega) (Nat.le_refl _))
      have HK2:=Kh (show ∀ w',w4.drew.grownBy w' (some G)→(w'.cell? ⟨gx,0,none⟩=some (.bool s)∧w'.cell? ⟨gx,1,none⟩=some (.slice p n5 c5)∧w'.cell? ⟨gx,2,none⟩=some (.bool t)∧w'.cell? ⟨gx,3,none⟩=some (.slice q m5 d5)∧w'.cell? ⟨M,4,none⟩=some (.slice (some ⟨GR,0,none⟩) C C)∧w'.cell? ⟨GR,k,none⟩=some (.slice (some ⟨gr,0,none⟩) F.length F.length))from fun w' hg=>⟨hg.cell hS0.1 (fun e=>HNE.out.1 (by injection e)),hg.cell hS0.2.1 (fun e=>HNE.out.1 (by injection e)),hg.cell hS0.2.2.1 (fun e=>HNE.out.1 (by injection e)),hg.cell hS0.2.2.2.1 (fun e=>HNE.out.1 (by injection e)),hg.cell hS0.2.2.2.2.1 (fun e=>HNE.out.2.1 (by injection e)),hg.cell hS0.2.2.2.2.2 (fun e=>HNE.out.2.2 (by injection e))⟩)
      clear hz hrq hgr m4 r4 rr b0 b1 b2 b3
      go_upto_region 15 with(fail)
      go_region_held3 (fun w'=>w'.cell? ⟨gx,0,none⟩=some (.bool s)∧w'.cell? ⟨gx,1,none⟩=some (.slice p n5 c5)∧w'.cell? ⟨gx,2,none⟩=some (.bool t)∧w'.cell? ⟨gx,3,none⟩=some (.slice q m5 d5)∧w'.cell? ⟨M,4,none⟩=some (.slice (some ⟨GR,0,none⟩) C C)∧w'.cell? ⟨GR,k,none⟩=some (.slice (some ⟨gr,0,none⟩) F.length F.length))
       (first|with_reducible exact hS0|with_reducible exact HSA.out |(exfalso;assumption))
       (first
        |(go_at_call 50;(with_reducible refine HAD.out.mono ?_);rintro e w10 ⟨⟨va,rfl⟩,hrow10,hg10,_⟩;have HR10:=Kh hrow10;have HB10:=Kh (HK1.out _ hg10);have HSA:=Kh (HK2.out _ hg10);clear hrow10 hg10))
      all_goals go_wp2
      all_goals go_roundw
      all_goals first
       | exact⟨k+1,by omega,by go_num,QRow.congr HR10.out (fun f hf=>by rw[vecS_succ]),HB10.out⟩
       |(simp[intOf];omega)
    ·obtain rfl:C=k:=by omega
     have hE:=HGE.out
     go_wp2
     (first|go_ret2|go_ret)
     exact⟨⟨G,rfl,Nat.le_of_eq hE,HROW.out⟩,hE▸HB2.out⟩
end Go.Proofs.YtenlbhlllgppmaaGreatDoor
namespace Go.Proofs.YtenlbhlllgppmaaGreatDoor
open Eli
def Nb (x y:Int×Int):Prop:=y.1*x.2 - x.1*y.2=1∨y.1*x.2 - x.1*y.2=-1
theorem Nb.symm {x y:Int×Int} (h:Nb x y):Nb y x:=by unfold Nb at *;omega
def Gd (x:Int×Int):Prop:=0≤x.2∧(x.2=0→x.1=1)
structure Steps (st:Int×Int→Int×Int→Rat):Prop where
 anti:∀ x y,Nb x y→st x y+st y x=0
 tri:∀ x y,Nb x y→st x y+st y (x.1+y.1,x.2+y.2)+st (x.1+y.1,x.2+y.2) x=0
noncomputable def par (x:Int×Int):Int×Int:=by
 classical
 exact if h:∃ y:Int×Int,y.1*x.2 - x.1*y.2=1∧0≤y.2∧y.2<x.2 then h.choose else(1,0)
theorem par_unique {x y z:Int×Int} (h1:y.1*x.2 - x.1*y.2=1) (h2:0≤y.2) (h3:y.2<x.2) (g1:z.1*x.2 - x.1*z.2=1) (g2:0≤z.2) (g3:z.2<x.2):y=z:=by
 have e:y.2 - z.2=x.2*(y.1*(y.2 - z.2) - (y.1 - z.1)*y.2):=by
  have h:(y.1 - z.1)*x.2=x.1*(y.2 - z.2):=by grind
  calc y.2 - z.2=(y.1*x.2 - x.1*y.2)*(y.2 - z.2):=by rw[h1,Int.one_mul]
   _=x.2*(y.1*(y.2 - z.2)) - (x.1*(y.2 - z.2))*y.2:=by grind
   _=x.2*(y.1*(y.2 - z.2) - (y.1 - z.1)*y.2):=by rw[← h];grind
 have h0:y.2 - z.2=0:=by
  obtain⟨t,ht⟩:∃ t,y.1*(y.2 - z.2) - (y.1 - z.1)*y.2=t:=⟨_,rfl⟩
  rw[ht]at e
  rcases Int.lt_trichotomy t 0 with h|h|h
  ·have:=Int.mul_le_mul_of_nonneg_left (show t≤-1 by omega) (show 0≤x.2 by omega)
   omega
  ·rw[e,h,Int.mul_zero]
  ·have:=Int.mul_le_mul_of_nonneg_left (show 1≤t by omega) (show 0≤x.2 by omega)
   omega
 have h2':y.2=z.2:=by omega
 have h4:(y.1 - z.1)*x.2=0:=by rw[h2']at h1;grind
 have h5:y.1=z.1:=by
  rcases Int.mul_eq_zero.1 h4 with h|h <;> omega
 exact Prod.ext h5 h2'
theorem par_eq {x y:Int×Int} (h1:y.1*x.2 - x.1*y.2=1) (h2:0≤y.2) (h3:y.2<x.2):par x=y:=by
 have hex:∃ y:Int×Int,y.1*x.2 - x.1*y.2=1∧0≤y.2∧y.2<x.2:=⟨y,h1,h2,h3⟩
 unfold par
 rw[dif_pos hex]
 have h:=hex.choose_spec
 exact par_unique h.1 h.2.1 h.2.2 h1 h2 h3
noncomputable def pot (st:Int×Int→Int×Int→Rat):Nat→Int×Int→Rat
 | 0,_=>0
 | k+1,x=>if 0<x.2∧(par x).2<x.2 then pot st k (par x)+st (par x) x else 0
noncomputable def Pot (st:Int×Int→Int×Int→Rat) (x:Int×Int):Rat:=pot st x.2.toNat x
theorem pot_fuel (st:Int×Int→Int×Int→Rat):∀ (k:Nat) (x:Int×Int),x.2.toNat≤k→pot st k x=Pot st x:=by
 intro k
 induction k using Nat.strongRecOn with
 | _ k ih=>
  intro x hx
  unfold Pot
  rcases Nat.eq_zero_or_pos k with hk|hk
  ·rw[hk,show x.2.toNat=0 by omega]
  ·obtain⟨m,rfl⟩:∃ m,k=m+1:=⟨k - 1,by omega⟩
   rcases Nat.eq_zero_or_pos x.2.toNat with h0|h0
   ·have e:pot st (m+1) x=0:=by rw[pot,if_neg (by omega)]
    rw[h0,e];rfl
   ·obtain⟨l,hl⟩:∃ l,x.2.toNat=l+1:=⟨x.2.toNat - 1,by omega⟩
    rw[hl,pot,pot]
    by_cases h:0<x.2∧(par x).2<x.2
    ·rw[if_pos h,if_pos h,ih m (by omega) (par x) (by omega),ih l (by omega) (par x) (by omega)]
    ·rw[if_neg h,if_neg h]
theorem Pot_par {st:Int×Int→Int×Int→Rat} {x y:Int×Int} (h1:y.1*x.2 - x.1*y.2=1) (h2:0≤y.2) (h3:y.2<x.2):Pot st x=Pot st y+st y x:=by
 have hp:=par_eq h1 h2 h3
 obtain⟨l,hl⟩:∃ l,x.2.toNat=l+1:=⟨x.2.toNat - 1,by omega⟩
 unfold Pot
 rw[hl,pot,hp,if_pos ⟨by omega,h3⟩,pot_fuel st l y (by omega)];rfl
theorem Steps.diff {st:Int×Int→Int×Int→Rat} (h:Steps st):∀ (N:Nat) (x y:Int×Int),Gd x→Gd y→Nb x y→(x.2+y.2).toNat≤N→st x y=Pot st y - Pot st x:=by
 intro N
 induction N with
 | zero=>
  intro x y hx hy hn hN
  exfalso
  have e1:x.2=0:=by have:=hx.1;have:=hy.1;omega
  have e2:y.2=0:=by have:=hx.1;have:=hy.1;omega
  unfold Nb at hn
  rw[e1,e2]at hn
  simp at hn
 | succ N ih=>
  have key:∀ x y:Int×Int,Gd x→Gd y→Nb x y→(x.2+y.2).toNat≤N+1→x.2≤y.2→st x y=Pot st y - Pot st x:=by
   intro x y hx hy hn hN hle
   have hx0:=hx.1
   rcases Int.lt_or_eq_of_le hle with hlt|heq
   ·rcases hn with hd|hd
    ·
     have hx2:x.2≠0:=fun e=>by
      have h1:=hx.2 e
      rw[e,h1]at hd
      omega
     obtain⟨z,hz⟩:∃ z:Int×Int,z=(y.1 - x.1,y.2 - x.2):=⟨_,rfl⟩
     have z1:z.1=y.1 - x.1:=by rw[hz]
     have z2:z.2=y.2 - x.2:=by rw[hz]
     have hzy:z.1*y.2 - y.1*z.2=1:=by rw[z1,z2];grind
     have hP:=Pot_par (st:=st) hzy (by omega) (by omega)
     have hzx:Nb z x:=.inr (by rw[z1,z2];grind)
     have hs:(z.1+x.1,z.2+x.2)=y:=Prod.ext (by show z.1+x.1=y.1;omega) (by show z.2+x.2=y.2;omega)
     have hT:=h.tri z x hzx
     rw[hs]at hT
     have hA:=h.anti z y (.inr (by grind))
     have hI:=ih z x ⟨by omega,fun e=>by omega⟩ hx hzx (by omega)
     grind
    ·
     have hP:=Pot_par (st:=st) (x:=y) (y:=x) (by omega) hx0 hlt
     grind
   ·
    have hq:y.2=1:=by
     have h1:y.2*(y.1 - x.1)=1∨y.2*(y.1 - x.1)=-1:=by
      unfold Nb at hn
      rw[heq]at hn
      rcases hn with hn|hn
      ·left;rw[← hn];grind
      ·right;rw[← hn];grind
     have h2:y.2∣1:=by
      rcases h1 with h1|h1
      ·exact⟨_,h1.symm⟩
      ·exact⟨-(y.1 - x.1),by rw[Int.mul_neg,h1];rfl⟩
     have h3:=Int.le_of_dvd (by decide) h2
     have h4:y.2≠0:=fun e=>by rw[e]at h1;simp at h1
     omega
    have hxq:x.2=1:=by omega
    obtain⟨oo,ho⟩:∃ oo:Int×Int,oo=(1,0):=⟨_,rfl⟩
    have o1:oo.1=1:=by rw[ho]
    have o2:oo.2=0:=by rw[ho]
    have hPx:=Pot_par (st:=st) (x:=x) (y:=oo) (by rw[o1,o2,hxq];omega) (by omega) (by omega)
    have hPy:=Pot_par (st:=st) (x:=y) (y:=oo) (by rw[o1,o2,hq];omega) (by omega) (by omega)
    have hP0:Pot st oo=0:=by unfold Pot;rw[o2];rfl
    have hox:Nb oo x:=.inr (by rw[o1,o2,hxq];omega)
    have hoy:Nb oo y:=.inr (by rw[o1,o2,hq];omega)
    have hA:=h.anti x y hn
    have hBx:=h.anti oo x hox
    have hBy:=h.anti oo y hoy
    have h1:y.1=x.1+1∨x.1=y.1+1:=by unfold Nb at hn;rw[hq,hxq]at hn;omega
    rcases h1 with h1|h1
    ·have hs:(oo.1+x.1,oo.2+x.2)=y:=Prod.ext (by show oo.1+x.1=y.1;omega) (by show oo.2+x.2=y.2;omega)
     have hT:=h.tri oo x hox
     rw[hs]at hT
     grind
    ·have hs:(oo.1+y.1,oo.2+y.2)=x:=Prod.ext (by show oo.1+y.1=x.1;omega) (by show oo.2+y.2=x.2;omega)
     have hT:=h.tri oo y hoy
     rw[hs]at hT
     grind
  intro x y hx hy hn hN
  rcases Int.le_total x.2 y.2 with hle|hle
  ·exact key x y hx hy hn hN hle
  ·have h1:=key y x hy hx hn.symm (by rw[Int.add_comm];exact hN) hle
   have h2:=h.anti x y hn
   grind
theorem Steps.chain {st:Int×Int→Int×Int→Rat} (h:Steps st) (ch:Nat→Int×Int):∀ k,(∀ j,j≤k→Gd (ch j))→(∀ j,j<k→Nb (ch j) (ch (j+1)))→sumQ (fun j=>st (ch j) (ch (j+1))) k=Pot st (ch k) - Pot st (ch 0)
 | 0,_,_=>by show(0:Rat)=_;grind
 | k+1,hg,hn=>by
  rw[sumQ,h.chain ch k (fun j hj=>hg j (by omega)) (fun j hj=>hn j (by omega)),h.diff _ _ _ (hg k (by omega)) (hg (k+1) (by omega)) (hn k (by omega)) (Nat.le_refl _)]
  grind
def ph (n wt:Nat) (D:Int) (x:Nat→Rat) (Q:Nat→Rat) (a b c d:Int):Rat:=cP n wt x (plcOf n D c d) (subst Q wt a b c d (wt+1))
theorem det_prim {n:Nat} {a b c d:Int} (hn:0<n) (h:a*d - b*c=1):pok n (kIx n c d)=true:=by
 refine prim_gcd hn ?_
 have h1:((Int.gcd c d:Nat):Int)∣1:=by
  rw[← h]
  exact Int.dvd_sub (Int.dvd_trans (Int.gcd_dvd_right ..) (Int.dvd_mul_left _ _)) (Int.dvd_trans (Int.gcd_dvd_left ..) (Int.dvd_mul_left _ _))
 have h2:(Int.gcd c d)∣1:=Int.natCast_dvd_natCast.1 h1
 exact Nat.dvd_one.1 h2
section
variable {n wt:Nat} {D:Int} {x:Nat→Rat} {Q:Nat→Rat}
theorem sub2 (a b c d a' b' c' d':Int):subst (subst Q wt a b c d (wt+1)) wt a' b' c' d' (wt+1)=subst Q wt (a*a'+b*c') (a*b'+b*d') (c*a'+d*c') (c*b'+d*d') (wt+1):=funext fun j=>subst_subst Q a b c d a' b' c' d' wt j
def stepQ (n wt:Nat) (D:Int) (x:Nat→Rat) (Q:Nat→Rat) (y z:Int×Int):Rat:=if z.1*y.2 - y.1*z.2=1 then ph n wt D x Q z.1 y.1 z.2 y.2 else ph n wt D x Q z.1 (-y.1) z.2 (-y.2)
end
end Go.Proofs.YtenlbhlllgppmaaGreatDoor
namespace Go.Proofs.YtenlbhlllgppmaaGreatDoor
def cfW (p q:Int):List Int:=if _h:0<q then p / q :: cfW q (p % q)else []
termination_by q.toNat
decreasing_by have:=Int.emod_lt_of_pos p (show 0<q by assumption);omega
theorem cfW_zero (p:Int):cfW p 0=[]:=by rw[cfW,dif_neg (by decide)]
theorem cfW_pos {p q:Int} (h:0<q):cfW p q=p / q :: cfW q (p % q):=by rw[cfW,dif_pos h]
def cvL:Int×Int→Int×Int→List Int→List (Int×Int)
 | _,_,[]=>[]
 | b,l,n :: ns=>(n*l.1+b.1,n*l.2+b.2) :: cvL l (n*l.1+b.1,n*l.2+b.2) ns
theorem cvL_length:∀ (ns:List Int) (b l:Int×Int),(cvL b l ns).length=ns.length
 | [],_,_=>rfl
 | n :: ns,b,l=>by rw[cvL,List.length_cons,List.length_cons,cvL_length ns]
def ChOk:List (Int×Int)→Prop
 | a :: b :: r=>Nb a b∧ChOk (b :: r)
 | _=>True
def InC (c:Int×Int):Prop:=-1073741824≤c.1∧c.1≤1073741824∧0≤c.2∧c.2≤1073741824
theorem gcd_rest {p q n r:Int} (h:q*n+r=p) (hg:Int.gcd p q=1):Int.gcd q r=1:=by
 have h1:((Int.gcd q r:Nat):Int)∣q:=Int.gcd_dvd_left ..
 have h2:((Int.gcd q r:Nat):Int)∣r:=Int.gcd_dvd_right ..
 have h3:Int.gcd q r∣Int.gcd p q:=Int.dvd_gcd (by rw[← h];exact Int.dvd_add (Int.dvd_trans h1 (Int.dvd_mul_right _ _)) h2) h1
 rw[hg]at h3
 exact Nat.dvd_one.1 h3
theorem cv_in {p0 q0 a b r e:Int} (hp0:-1073741824≤p0) (hp1:p0≤1073741824) (hq:0<q0) (hb:0≤b) (hb1:b≤q0) (hr:0≤r) (hr1:r<q0) (hc:q0*a - p0*b=r*e) (he:e=1∨e=-1):-1073741824≤a∧a≤1073741824:=by
 have h1:p0*b≤1073741824*q0:=Int.le_trans (Int.mul_le_mul_of_nonneg_right hp1 hb) (Int.mul_le_mul_of_nonneg_left hb1 (by decide))
 have h2:-1073741824*q0≤p0*b:=by
  have h3:=Int.mul_le_mul_of_nonneg_right hp0 hb
  have h4:=Int.mul_le_mul_of_nonneg_left hb1 (show(0:Int)≤1073741824 by decide)
  omega
 have h5:-r≤r*e∧r*e≤r:=by rcases he with rfl|rfl <;> omega
 constructor
 ·rcases Int.lt_or_le a (-1073741824)with h|h
  ·exfalso
   have:=Int.mul_le_mul_of_nonneg_left (show a≤-1073741825 by omega) (Int.le_of_lt hq)
   omega
  ·exact h
 ·rcases Int.lt_or_le 1073741824 a with h|h
  ·exfalso
   have:=Int.mul_le_mul_of_nonneg_left (show 1073741825≤a by omega) (Int.le_of_lt hq)
   omega
  ·exact h
theorem cv_rest {p0 q0:Int} (hp0:-1073741824≤p0) (hp1:p0≤1073741824) (hq1:q0≤1073741824):∀ (j:Nat) (p q:Int) (b l:Int×Int),0≤q→q<p→p*q<2 ^ j→Int.gcd p q=1→l.1*p+b.1*q=p0→l.2*p+b.2*q=q0 →
  (l.1*b.2 - b.1*l.2=1∨l.1*b.2 - b.1*l.2=-1)→1≤l.2→0≤b.2 →
  (cfW p q).length≤j∧(∀ n∈cfW p q,1≤n∧n≤1073741824)∧(∀ c∈cvL b l (cfW p q),InC c∧1≤c.2)∧ChOk (l :: cvL b l (cfW p q))∧(l :: cvL b l (cfW p q)).getLast?=some (p0,q0):=by
 intro j
 induction j with
 | zero=>
  intro p q b l hq hqp hpq hg e1 e2 hd hl hb
  obtain rfl:q=0:=by
   rcases Int.lt_or_eq_of_le hq with h|h
   ·have:=Int.mul_le_mul (show(1:Int)≤p by omega) (show(1:Int)≤q by omega) (by omega) (by omega)
    omega
   ·exact h.symm
  have hp:p=1:=by simp at hg;omega
  subst hp
  have hc:=cfW_zero 1
  rw[hc]
  refine⟨by simp,by simp,by simp[cvL],by simp[cvL,ChOk],?_⟩
  have h1:l=(p0,q0):=Prod.ext (by show l.1=p0;omega) (by show l.2=q0;omega)
  simp[cvL,h1]
 | succ j ih=>
  intro p q b l hq hqp hpq hg e1 e2 hd hl hb
  rcases Int.lt_or_eq_of_le hq with hq0|hq0
  ·have hr0:=Int.emod_nonneg p (show q≠0 by omega)
   have hr1:=Int.emod_lt_of_pos p hq0
   have hdm:=Int.mul_ediv_add_emod p q
   obtain⟨r,hr⟩:∃ r,p % q=r:=⟨_,rfl⟩
   obtain⟨n,hn⟩:∃ n,p / q=n:=⟨_,rfl⟩
   rw[hr]at hr0 hr1 hdm
   rw[hn]at hdm
   have hn1:1≤n:=by
    rcases Int.lt_or_le n 1 with h|h
    ·have:=Int.mul_le_mul_of_nonneg_left (show n≤0 by omega) (show 0≤q by omega)
     omega
    ·exact h
   have hnp:n≤p:=by
    have:=Int.mul_le_mul_of_nonneg_right (show(1:Int)≤q by omega) (show 0≤n by omega)
    omega
   have hqr:q*r<2 ^ j:=by
    have h1:q*q+q*r≤p*q:=by
     have h3:q*q≤q*n*q:=by
      have:=Int.mul_le_mul_of_nonneg_left hn1 (show 0≤q*q from Int.mul_nonneg hq hq)
      calc q*q=q*q*1:=by omega
       _≤q*q*n:=this
       _=q*n*q:=by grind
     have h4:p*q=q*n*q+q*r:=by rw[← hdm];grind
     omega
    have h2:q*r≤q*q:=Int.mul_le_mul_of_nonneg_left (show r≤q by omega) hq
    have h5:(2:Int) ^ (j+1)=2*2 ^ j:=by rw[Int.pow_succ];omega
    omega
   have hg2:Int.gcd q r=1:=gcd_rest hdm hg
   obtain⟨l',hl'⟩:∃ l':Int×Int,l'=(n*l.1+b.1,n*l.2+b.2):=⟨_,rfl⟩
   have l1:l'.1=n*l.1+b.1:=by rw[hl']
   have l2:l'.2=n*l.2+b.2:=by rw[hl']
   have f1:l'.1*q+l.1*r=p0:=by rw[l1,← e1,← hdm];grind
   have f2:l'.2*q+l.2*r=q0:=by rw[l2,← e2,← hdm];grind
   have hl2:1≤l'.2:=by
    have:=Int.mul_le_mul_of_nonneg_right hn1 (show 0≤l.2 by omega)
    omega
   have hd':l'.1*l.2 - l.1*l'.2=1∨l'.1*l.2 - l.1*l'.2=-1:=by
    have:l'.1*l.2 - l.1*l'.2=-(l.1*b.2 - b.1*l.2):=by rw[l1,l2];grind
    omega
   obtain⟨g1,g2,g3,g4,g5⟩:=ih q r l l' hr0 hr1 hqr hg2 f1 f2 hd' hl2 (by omega)
   have hqq0:q<q0:=by
    have h1:=Int.mul_le_mul_of_nonneg_right hl (show 0≤p by omega)
    have h2:=Int.mul_nonneg hb hq
    omega
   have hlq:l'.2≤q0:=by
    have h1:=Int.mul_le_mul_of_nonneg_left (show(1:Int)≤q by omega) (show 0≤l'.2 by omega)
    have h2:=Int.mul_nonneg (show 0≤l.2 by omega) hr0
    omega
   have hpp:p≤q0:=by
    have h1:=Int.mul_le_mul_of_nonneg_right hl (show 0≤p by omega)
    have h2:=Int.mul_nonneg hb hq
    omega
   have hcross:q0*l'.1 - p0*l'.2=r*(l'.1*l.2 - l.1*l'.2):=by rw[← f1,← f2];grind
   have hin:InC l':=by
    have h1:=cv_in hp0 hp1 (by omega) (by omega) hlq hr0 (by omega) hcross hd'
    exact⟨h1.1,h1.2,by omega,by omega⟩
   have hcf:cfW p q=n :: cfW q r:=by rw[cfW_pos hq0,hn,hr]
   have hcv:cvL b l (n :: cfW q r)=l' :: cvL l l' (cfW q r):=by rw[cvL,← hl']
   rw[hcf,hcv]
   refine⟨by rw[List.length_cons];omega,fun x hx=>?_,fun c hc=>?_,⟨?_,g4⟩,?_⟩
   ·rcases List.mem_cons.1 hx with rfl|hx
    ·omega
    ·exact g2 x hx
   ·rcases List.mem_cons.1 hc with rfl|hc
    ·exact⟨hin,hl2⟩
    ·exact g3 c hc
   ·exact hd'
   ·rw[List.getLast?_cons_cons];exact g5
  ·subst hq0
   have hp:p=1:=by simp at hg;omega
   subst hp
   have hc:=cfW_zero 1
   rw[hc]
   refine⟨by simp,by simp,by simp[cvL],by simp[cvL,ChOk],?_⟩
   have h1:l=(p0,q0):=Prod.ext (by show l.1=p0;omega) (by show l.2=q0;omega)
   simp[cvL,h1]
def pthL (x:Int×Int):List (Int×Int):=(1,0) :: if x.2=0 then []else cvL (0,1) (1,0) (cfW x.1 x.2)
theorem cusp_ok {x:Int×Int} (h:cuspE x.1 x.2=0):(-1073741824≤x.1∧x.1≤1073741824)∧(0≤x.2∧x.2≤1073741824)∧Int.gcd x.1 x.2=1∧(x.2=0→x.1=1):=by
 unfold cuspE at h
 split at h
 ·cases h
 ·rename_i h1
  split at h
  ·cases h
  ·rename_i h2
   simp only[inE,Bool.and_eq_false_iff,decide_eq_false_iff_not]at h1
   refine⟨by omega,by omega,by omega,fun e=>by omega⟩
theorem cf_ok {x:Int×Int} (h:cuspE x.1 x.2=0) (hq:x.2≠0):((cfW x.1 x.2).length≤61∧0<(cfW x.1 x.2).length)∧(∀ i n,(cfW x.1 x.2)[i]?=some n→-1073741824≤n∧n≤1073741824∧(0<i→1≤n))∧(∀ c∈cvL (0,1) (1,0) (cfW x.1 x.2),InC c∧1≤c.2)∧ChOk ((1,0) :: cvL (0,1) (1,0) (cfW x.1 x.2))∧((1,0) :: cvL (0,1) (1,0) (cfW x.1 x.2)).getLast?=some x:=by
 obtain⟨⟨p0,p1⟩,⟨q0,q1⟩,hg,_⟩:=cusp_ok h
 obtain⟨p,q⟩:=x
 dsimp only at *
 have hr0:=Int.emod_nonneg p hq
 have hr1:=Int.emod_lt_of_pos p (show 0<q by omega)
 have hdm:=Int.mul_ediv_add_emod p q
 obtain⟨r,hr⟩:∃ r,p % q=r:=⟨_,rfl⟩
 obtain⟨n,hn⟩:∃ n,p / q=n:=⟨_,rfl⟩
 have hcf:cfW p q=n :: cfW q r:=by rw[cfW_pos (by omega),hn,hr]
 rw[hr]at hr0 hr1 hdm
 rw[hn]at hdm
 have hcv:cvL (0,1) (1,0) (n :: cfW q r)=(n,1) :: cvL (1,0) (n,1) (cfW q r):=by
  rw[cvL];simp
 have hn0:-1073741824≤n∧n≤1073741824:=by
  constructor
  ·rcases Int.lt_or_le n (-1073741824)with h|h
   ·exfalso
    have h1:=Int.mul_le_mul_of_nonneg_left (show n≤-1073741825 by omega) (show 0≤q by omega)
    have h2:q*1073741825=q * -1073741825 * -1:=by omega
    omega
   ·exact h
  ·rcases Int.lt_or_le 1073741824 n with h|h
   ·exfalso
    have h1:=Int.mul_le_mul_of_nonneg_left (show 1073741825≤n by omega) (show 0≤q by omega)
    omega
   ·exact h
 have hg2:Int.gcd q r=1:=gcd_rest hdm hg
 have hqr:q*r<2 ^ 60:=by
  have h1:=Int.mul_le_mul (show q≤1073741824 by omega) (show r≤1073741823 by omega) hr0 (by omega)
  have h2:(2:Int) ^ 60=1152921504606846976:=by decide
  omega
 obtain⟨g1,g2,g3,g4,g5⟩:=cv_rest (p0:=p) (q0:=q) p0 p1 q1 60 q r (1,0) (n,1) hr0 hr1 hqr hg2 (by dsimp only;rw[← hdm,Int.mul_comm];omega) (by dsimp only;omega) (by dsimp only;omega) (by dsimp only;omega) (by dsimp only;omega)
 rw[hcf,hcv]
 refine⟨⟨by rw[List.length_cons];omega,by simp⟩,fun i z hz=>?_,fun c hc=>?_,⟨?_,g4⟩,?_⟩
 ·cases i with
  | zero=>simp at hz;subst hz;exact⟨hn0.1,hn0.2,fun h=>absurd h (Nat.lt_irrefl 0)⟩
  | succ i=>
   have h1:=g2 z (List.mem_of_getElem? (by simpa using hz))
   exact⟨by omega,by omega,fun _=>h1.1⟩
 ·rcases List.mem_cons.1 hc with rfl|hc
  ·exact⟨⟨hn0.1,hn0.2,by dsimp only;omega,by dsimp only;omega⟩,by dsimp only;omega⟩
  ·exact g3 c hc
 ·unfold Nb;dsimp only;omega
 ·rw[List.getLast?_cons_cons];exact g5
theorem pth_ok {x:Int×Int} (h:cuspE x.1 x.2=0):(pthL x).length≤62∧(∀ c∈pthL x,InC c∧Gd c)∧ChOk (pthL x)∧(pthL x).getLast?=some x:=by
 have h1:InC ((1,0):Int×Int):=⟨by decide,by decide,by decide,by decide⟩
 unfold pthL
 by_cases hq:x.2=0
 ·rw[if_pos hq]
  have hx:=(cusp_ok h).2.2.2 hq
  refine⟨by simp,fun c hc=>?_,by simp[ChOk],?_⟩
  ·simp at hc;subst hc;exact⟨h1,⟨by decide,fun _=>rfl⟩⟩
  ·have:x=(1,0):=Prod.ext hx hq
   rw[this];rfl
 ·rw[if_neg hq]
  obtain⟨a1,a2,a3,a4,a5⟩:=cf_ok h hq
  refine⟨by rw[List.length_cons,cvL_length];omega,fun c hc=>?_,a4,a5⟩
  rcases List.mem_cons.1 hc with rfl|hc
  ·exact⟨h1,⟨by decide,fun _=>rfl⟩⟩
  ·have h3:=a3 c hc
   exact⟨h3.1,⟨by omega,fun e=>by omega⟩⟩
theorem ChOk.get:∀ {l:List (Int×Int)},ChOk l→∀ (j:Nat) (a b:Int×Int),l[j]?=some a→l[j+1]?=some b→Nb a b
 | [],_,j,a,b,h,_=>by simp at h
 | [c],_,j,a,b,h,h'=>by simp at h'
 | c :: d :: r,h,0,a,b,ha,hb=>by simp at ha hb;subst ha;subst hb;exact h.1
 | c :: d :: r,h,j+1,a,b,ha,hb=>ChOk.get (l:=d :: r) h.2 j a b (by simpa using ha) (by simpa using hb)
structure ChainOk (a b:Int×Int) (ch:List (Int×Int)):Prop where
 len:ch.length≤124
 pos:0<ch.length
 first:ch[0]?=some a
 last:ch[ch.length - 1]?=some b
 good:∀ c∈ch,InC c∧Gd c
 nb:∀ j c d,ch[j]?=some c→ch[j+1]?=some d→Nb c d
theorem joined {a b:Int×Int} (ha:cuspE a.1 a.2=0) (hb:cuspE b.1 b.2=0) {c:Nat} (hc:0<c) (h1:c≤(pthL a).length) (h2:c≤(pthL b).length) (he:∀ j,j<c→(pthL a)[j]?=(pthL b)[j]?):ChainOk a b (((pthL a).drop (c - 1)).reverse++(pthL b).drop c):=by
 obtain⟨a1,a2,a3,a4⟩:=pth_ok ha
 obtain⟨b1,b2,b3,b4⟩:=pth_ok hb
 rw[List.getLast?_eq_getElem?]at a4 b4
 obtain⟨la,hla⟩:∃ la,(pthL a).length=la:=⟨_,rfl⟩
 obtain⟨lb,hlb⟩:∃ lb,(pthL b).length=lb:=⟨_,rfl⟩
 rw[hla]at a1 a4 h1
 rw[hlb]at b1 b4 h2
 have hl:(((pthL a).drop (c - 1)).reverse++(pthL b).drop c).length=(la - (c - 1))+(lb - c):=by simp[hla,hlb]
 have hL:∀ j,j<la - (c - 1)→(((pthL a).drop (c - 1)).reverse++(pthL b).drop c)[j]?=(pthL a)[la - 1 - j]?:=fun j hj=>by
  rw[List.getElem?_append_left (by simp[hla];omega),List.getElem?_reverse (by simp[hla];omega),List.getElem?_drop]
  congr 1
  simp[hla]
  omega
 have hR:∀ j,la - (c - 1)≤j→(((pthL a).drop (c - 1)).reverse++(pthL b).drop c)[j]?=(pthL b)[c+(j - (la - (c - 1)))]?:=fun j hj=>by
  rw[List.getElem?_append_right (by simp[hla];omega),List.getElem?_drop]
  congr 1
  simp[hla]
 refine⟨by rw[hl];omega,by rw[hl];omega,by rw[hL 0 (by omega)];exact a4,?_,fun x hx=>?_,fun j x y hx hy=>?_⟩
 ·rw[hl]
  by_cases h:lb=c
  ·rw[hL _ (by omega),show la - 1 - ((la - (c - 1))+(lb - c) - 1)=c - 1 by omega,he (c - 1) (by omega),← b4,h]
  ·rw[hR _ (by omega),← b4]
   congr 1
   omega
 ·rcases List.mem_append.1 hx with hx|hx
  ·exact a2 x (List.mem_of_mem_drop (List.mem_reverse.1 hx))
  ·exact b2 x (List.mem_of_mem_drop hx)
 ·have hj:j+1<(la - (c - 1))+(lb - c):=by rw[← hl];exact(List.getElem?_eq_some_iff.1 hy).1
  by_cases h3:j+1<la - (c - 1)
  ·rw[hL j (by omega)]at hx
   rw[hL (j+1) h3]at hy
   exact(a3.get (la - 1 - (j+1)) y x hy (by rw[show la - 1 - (j+1)+1=la - 1 - j by omega];exact hx)).symm
  ·by_cases h4:j<la - (c - 1)
   ·rw[hL j h4,show la - 1 - j=c - 1 by omega,he (c - 1) (by omega)]at hx
    rw[hR (j+1) (by omega),show c+(j+1 - (la - (c - 1)))=c - 1+1 by omega]at hy
    exact b3.get (c - 1) x y hx hy
   ·rw[hR j (by omega)]at hx
    rw[hR (j+1) (by omega),show c+(j+1 - (la - (c - 1)))=c+(j - (la - (c - 1)))+1 by omega]at hy
    exact b3.get _ x y hx hy
end Go.Proofs.YtenlbhlllgppmaaGreatDoor
namespace Go.Proofs.YtenlbhlllgppmaaGreatDoor
open Go.RowKit
def OwnI (l:List Int) (w:World) (B:Nat) (v:Value):Prop:=OwnK NotU32 w B 3 1 v l.length (l.map (Value.int .i64))
def cusps (l:List (Int×Int)):List Value:=l.flatMap fun c=>[.int .i64 c.1,.int .i64 c.2]
def OwnC (l:List (Int×Int)) (w:World) (B:Nat) (v:Value):Prop:=OwnK NotU32 w B 47 2 v l.length (cusps l)
theorem OwnI.push {l:List Int} {w':World} {B:Nat} {v':Value} {a:Int} (h:OwnK NotU32 w' B 3 1 v' (l.length+1) (l.map (Value.int .i64)++[.int .i64 a])):OwnI (l++[a]) w' B v':=by
 unfold OwnI
 rw[List.length_append,List.map_append]
 exact h
theorem OwnC.push {l:List (Int×Int)} {w':World} {B:Nat} {v':Value} {a:Int×Int} (h:OwnK NotU32 w' B 47 2 v' (l.length+1) (cusps l++[.int .i64 a.1,.int .i64 a.2])):OwnC (l++[a]) w' B v':=by
 unfold OwnC cusps at *
 rw[List.length_append,List.flatMap_append]
 exact h
theorem OwnC.low {l:List (Int×Int)} {w:World} {B B':Nat} {v:Value} (h:OwnC l w B v) (hB:B'≤B):OwnC l w B' v:=⟨h.1.mono hB,h.2⟩
theorem OwnI.at_ {l:List Int} {w:World} {B:Nat} {v:Value} (h:OwnI l w B v) (h0:0<l.length):∃ g cap,v=.slice (some ⟨g,0,none⟩) l.length cap∧g<w.heap.size∧∀ (i:Nat) (n:Int),l[i]?=some n→w.cell? ⟨g,i,none⟩=some (.int .i64 n):=by
 obtain⟨g,cap,e,_,_,_,hlt,_,hc⟩:=own_at h h0
 exact⟨g,cap,e,hlt,fun i n hi=>hc i _ (by rw[List.getElem?_map,hi];rfl)⟩
def CAt (w:World) (g o:Nat) (l:List (Int×Int)):Prop:=∀ (j:Nat) (c:Int×Int),l[j]?=some c→w.cell? ⟨g,o+j*2,none⟩=some (.int .i64 c.1)∧w.cell? ⟨g,o+j*2+1,none⟩=some (.int .i64 c.2)
def rv (l:List (Int×Int)) (i j:Nat):Option (Int×Int):=if j<i∨l.length≤i+j then l[l.length - 1 - j]? else l[j]?
theorem own_all {K:Value→Prop} {w:World} {B E sz n:Nat} {v:Value} {xs:List Value} (h:OwnK K w B E sz v n xs) (hn:0<n):∃ g cap,v=.slice (some ⟨g,0,none⟩) n cap∧n≤cap∧cap≤9223372036854775807∧B≤g∧g<w.heap.size∧(∀ i,w.frozen? ⟨g,i,none⟩=false)∧(∀ (j:Nat) u,xs[j]?=some u→w.cell? ⟨g,j,none⟩=some u)∧∀ j,j<cap*sz→(w.cell? ⟨g,j,none⟩).isSome=true:=by
 rcases h.1.2 with⟨_,e2⟩ |⟨g,cap,cs,e1,hB,hg,hc,hcm,hcs,_⟩
 ·omega
 ·have hs:=h.2 g (by rw[e1];rfl)
  subst e1
  exact⟨g,cap,rfl,hc,by simp only[maxLen]at hcm;omega,hB,hs.1,fun i=>Blk.free_ hg i,fun j u hu=>own_read h.1 hu,fun j hj=>by rw[Blk.cell_ hg j,Array.getElem?_eq_getElem (by omega)];rfl⟩
theorem CAt.keep {w w':World} {g o:Nat} {l:List (Int×Int)} (h:CAt w g o l) (hg:g<w.heap.size) (hb:Below w.heap.size w w'):CAt w' g o l:=fun j c hc=>⟨(hb.cell (p:=⟨g,o+j*2,none⟩) hg).trans (h j c hc).1,(hb.cell (p:=⟨g,o+j*2+1,none⟩) hg).trans (h j c hc).2⟩
theorem CAt.drop {w:World} {g o:Nat} {l:List (Int×Int)} (h:CAt w g o l) (d:Nat):CAt w g (o+d*2) (l.drop d):=fun j c hc=>by
 rw[List.getElem?_drop]at hc
 have h1:=h _ _ hc
 rw[show o+(d+j)*2=o+d*2+j*2 by omega]at h1
 exact h1
end Go.Proofs.YtenlbhlllgppmaaGreatDoor
namespace Go.Proofs.YtenlbhlllgppmaaGreatDoor
open Eli
theorem relZ_of {n wt:Nat} {D:Int} (hw:wt≤22) {f:Nat} (hf:f∈frs (elF n wt D) (cntF n wt)):RelZ n wt D (fun j=>crd (elF n wt D) (cntF n wt) (cntF n wt) j f):=by
 intro r hr
 obtain⟨h1,h2⟩:=frs_mem.1 hf
 have h:=class_zero (elF_good hw) ((elim_span (by omega) (rowF_small (relF_small hw)) (rowF_zero _ _) _).1 r hr) h1 h2
 rw[← h]
 refine sumQ_congr (fun k hk=>?_)
 have hk':k<cntF n wt:=hk
 have e:rowF (cntF n wt) (relF n wt D) r k=relOf n wt D r k:=by
  unfold rowF relF
  rw[if_pos hk']
  have e1:(r*cntF n wt+k) / ((wt+1)*(pts n (n*n)).length)=r:=by
   show(r*cntF n wt+k) / cntF n wt=r
   rw[Nat.mul_comm,Nat.mul_add_div (by omega),Nat.div_eq_of_lt hk',Nat.add_zero]
  have e2:(r*cntF n wt+k) % ((wt+1)*(pts n (n*n)).length)=k:=by
   show(r*cntF n wt+k) % cntF n wt=k
   rw[Nat.mul_comm,Nat.mul_add_mod,Nat.mod_eq_of_lt hk']
  rw[e1,e2]
 rw[e]
end Go.Proofs.YtenlbhlllgppmaaGreatDoor
namespace Go.Proofs.YtenlbhlllgppmaaGreatDoor
open Go.RowKit Eli
theorem c_MCountH (n wt:Nat) (D:Int) (w:World) (hT:Tab w) (hck:Pl.check n ((wt:Int)+2) D=0):
  Calls Tryz.prog 99 #[.agg #[.int .i64 n,.int .i64 ((wt:Int)+2),.int .i64 D]] w fun e w'=>e=.returned (.tuple #[.int .i64 ((cntF n wt:Nat):Int),.int .i64 0])∧Below w.heap.size w w':=by
 obtain⟨h1,h2,h3,h4,h5,h6⟩:=check_zero hck
 have hpl:(pts n (n*n)).length≤14400:=Nat.le_trans (pts_length n (n*n)) (by have:n*n≤120*120:=Nat.mul_le_mul (by omega) (by omega);omega)
 have HEN:=Kh (fun W (hb:Below w.heap.size w W)=>c_enter_ok n wt D W (hT.below hb) (by omega) (by omega) (by omega) (by omega) (by omega) hck)
 have HCO:=Kh (fun T B W h=>c_countW T B n wt (pts n (n*n)) (plAll n D (pts n (n*n)) n) W h (by omega) hpl)
 obtain⟨C,hC⟩:∃ C,cntF n wt=C:=⟨_,rfl⟩
 have hC2:(wt+1)*(pts n (n*n)).length=C:=hC
 rw[hC2]at HCO
 rw[hC]
 clear hT hck h1 h2 h3 h4 h5 h6 hC hC2 hpl
 go_enter Tryz.func99,Tryz.ntmps99
 go_wp2_with fail
 have hb0:Below w.heap.size w (w.alloc (.cells #[.int .i64 n,.int .i64 ((wt:Int)+2),.int .i64 D] 23)):=(Below.refl _ _).alloc (Nat.le_refl _) _
 refine(HEN.out _ hb0).mono ?_
 rintro e w1 ⟨⟨T,rfl,hwa⟩,hb1⟩
 have HB1:=Kh (hb0.trans (hb1.mono hb0.size))
 have HWA:=Kh hwa
 clear hb0 hb1 hwa
 go_wp2_with fail
 refine(HCO.out T w1.heap.size w1 HWA.out).mono ?_
 rintro e w2 ⟨rfl,m,rfl⟩
 have HB2:=Kh (below_drewN' HB1.out m)
 go_wp2
 (first|go_ret2|go_ret)
 exact⟨rfl,HB2.out⟩
end Go.Proofs.YtenlbhlllgppmaaGreatDoor
