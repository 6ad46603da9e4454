/- paths.Along of a chain of Farey neighbours: the difference of the potential at its ends. -/
import Derived.Test.YtijgdhijdfgpfaaGreatDoorY45
import Derived.Test.YtijgdhijdfgpfaaGreatDoorY13
import Derived.ChangeSlices
import Derived.Deep.Slices
import Derived.Deep.Strs
import Derived.ReadAgain
import Derived.Lib.SmallJoins
set_option linter.unusedSimpArgs false
set_option maxRecDepth 100000
set_option maxHeartbeats 8000000
namespace Go.Proofs.YtijgdhijdfgpfaaGreatDoor
open Go.RowKit Eli
theorem chL_cusp (x:Nat→Int) {n:Nat} (hn:n≤12):∀ c∈chL x n,cuspE c.1 c.2=0:=by
 intro c hc
 unfold chL at hc
 obtain⟨k,hk,rfl⟩:=List.mem_map.1 hc
 exact chC_ok x (by have:=List.mem_range.1 hk;omega)
theorem c_Along {M n wt:Nat} {D:Int} {F:List Nat} {C:Nat} {X:Nat→Nat→Rat} {w:World} (hT:Tab w) (h:ModR w M n wt D F C X) (v:Value) (f:Nat→Rat) (hp:QL (fun j=>IsQ (f j)) w v (wt+1)) (hf:∀ j,j<wt+1→hq (f j)≤4)
  {a b:Int×Int} {ch:List (Int×Int)} (hok:ChainOk a b ch) (hcu:∀ c∈ch,cuspE c.1 c.2=0) (gc oc cc:Nat) (hg:gc<w.heap.size) (hcat:CAt w gc oc ch):
  Calls Tryz.prog 29 #[.pointer (some ⟨M,0,none⟩),v,.slice (some ⟨gc,oc,none⟩) ch.length cc] w fun e w'=>(∃ g,e=.returned (.tuple #[.slice (some ⟨g,0,none⟩) F.length F.length,.int .i64 0])∧w.heap.size≤g∧QRow (fun j=>IsQ (Pot (stepQ n wt D (fun i=>X i (F.getD j 0)) f) b - Pot (stepQ n wt D (fun i=>X i (F.getD j 0)) f) a)) w' g F.length F.length∧∀ j,j<F.length→hq (Pot (stepQ n wt D (fun i=>X i (F.getD j 0)) f) b - Pot (stepQ n wt D (fun i=>X i (F.getD j 0)) f) a)≤60000000)∧Below w.heap.size w w':=by
 obtain⟨pv,cv,rfl⟩:=hp.sl
 have hck:=h.check
 have hwt:wt≤22:=by have:=check_zero hck;omega
 have hn0:0<n:=by have:=check_zero hck;omega
 have eQ:(fun i=>Rat.divInt (f i).num ((f i).den:Int))=f:=funext fun i=>Rat.num_divInt_den (f i)
 obtain⟨kk,hkk⟩:∃ kk,(wt:Int)+2=kk:=⟨_,rfl⟩
 obtain⟨L,hL⟩:∃ L,wt+1=L:=⟨_,rfl⟩
 have HSP:=Kh (fun W (hb:Below w.heap.size w W)=>c_Spec M w.heap.size n kk D F C X W (hkk▸h.mod.keep (Nat.le_refl _) hb) hb.size)
 have HCO:=Kh (fun W (hb:Below w.heap.size w W)=>c_collect M w.heap.size n wt D F C X ch gc oc cc (.slice pv (wt+1) cv) (fun j=>(f j).num) (fun j=>(f j).den) W (hT.below hb) hck h.cnt h.len (h.mod.keep (Nat.le_refl _) hb) hb.size h.size ((hp.isS4 hf).keep (fun _=>IsR.solid _ _) hb) (Nat.lt_of_lt_of_le hg hb.size) (Nat.le_trans hok.len (by decide))
  (fun k c hk=>⟨(hcat.keep hg hb k c hk).1,(hcat.keep hg hb k c hk).2,by have h:=(hok.good c (List.mem_of_getElem? hk)).1;unfold InC at h;omega⟩)
  (fun k a b ha hb=>by
   have h:=hok.nb k a b ha hb
   exact⟨h,(plc_ne hck (det_prim (a:=(stpM a b).1.1) (b:=(stpM a b).1.2) hn0 (stp_det h))).1⟩))
 rw[eQ]at HCO
 have HV:=Kh (fun fr (hfr:fr∈F)=>And.intro (stC_chain hck (h.rel fr hfr) hok f) (stC_size hck h.cnt hf h.size hfr hok))
 have HAT:=Kh (show ∀ (k:Nat) (c:Int×Int),ch[k]?=some c→∀ W,Below w.heap.size w W→W.cell? ⟨gc,oc+k*2,none⟩=some (.int .i64 c.1)∧W.cell? ⟨gc,oc+k*2+1,none⟩=some (.int .i64 c.2)from fun k c hk W hb=>hcat.keep hg hb k c hk)
 have HCC:=Kh (show ∀ (k:Nat) (c:Int×Int),ch[k]?=some c→∀ W,Calls Tryz.prog 45 #[.agg #[.int .i64 c.1,.int .i64 c.2]] W fun e w'=>e=.returned (.int .i64 0)∧Below W.heap.size W w' from fun k c hk W=>by
  have h1:=(hok.good c (List.mem_of_getElem? hk)).1
  unfold InC at h1
  have h2:=c_CheckCusp c.1 c.2 W (by omega) (by omega) (by omega) (by omega)
  rw[hcu c (List.mem_of_getElem? hk)]at h2
  exact h2)
 have hlen:=hok.len
 rw[hL]at HCO ⊢
 have hk1:kk - 1=(L:Int):=by omega
 have hw1:IntKind.i64.wrap (L:Int)=(L:Int):=IntWalk.i64_in _ (by omega)
 have hfd:∀ W:World,(Instr.field 40 (.agg #[.int .i64 n,.int .i64 kk,.int .i64 D]) 1).run Tryz.prog W=.ok (.int .i64 kk) W:=fun W=>by kernel_rfl
 have HGT:=Kh (show ∀ k,k<ch.length→∃ c,ch[k]?=some c from fun k hk=>⟨_,List.getElem?_eq_getElem hk⟩)
 obtain⟨K,hK⟩:∃ K,ch.length=K:=⟨_,rfl⟩
 rw[hK]at HCO HGT hlen HV ⊢
 clear hT h hp hf hok hcu hg hcat hck hwt hn0 eQ hkk hL hK
 go_enter Tryz.func29,Tryz.ntmps29
 go_wp2_with fail
 refine(HSP.out w (Below.refl _ w)).mono ?_
 rintro e w1 ⟨rfl,hb1⟩
 have HB1:=Kh hb1
 clear hb1 HSP
 go_wp2_with fail
 go_loopw [22] (fun ii wr=>∃ i:Nat,i≤K∧ii=.int .i64 i∧Below w.heap.size w wr) (fun ii _=>K - (intOf ii).toNat)
 case atStart=>exact⟨0,Nat.zero_le _,rfl,HB1.out⟩
 case round=>
  obtain⟨i,hi,rfl,hbw⟩:=hrel
  obtain⟨we,rfl⟩:∃ we:World,we=wr:=⟨_,rfl⟩
  have HBE:=Kh hbw
  clear hbw HB1
  by_cases hlt:i<K
  ·have hii:(i:Int)<(K:Int):=by omega
   obtain⟨⟨c1,c2⟩,hc⟩:=HGT.out i hlt
   obtain⟨x0,x1⟩:=HAT.out i _ hc we HBE.out
   dsimp only at x0 x1
   have HCI:=Kh (HCC.out i _ hc)
   clear hc
   obtain⟨wa,hwa⟩:∃ wa,we.alloc (.cells #[.int .i64 c1,.int .i64 c2] 24)=wa:=⟨_,rfl⟩
   obtain⟨XA,hba⟩:=box1 we #[.int .i64 c1,.int .i64 c2] 24
   rw[hwa]at XA hba
   have HBA:=bt HBE hba
   have y0:=XA.at_ 0 rfl
   have y1:=XA.at_ 1 rfl
   clear XA hba
   go_wp2_with fail
   refine(HCI.out wa).mono ?_
   rintro e w3 ⟨rfl,hb3⟩
   have HB3:=bt HBA hb3
   clear hb3 HCI x0 x1 y0 y1 hwa HBA HBE
   go_wp2
   go_roundw
   case rel=>exact⟨i+1,by omega,by go_num,HB3.out⟩
   case measure=>simp[intOf];omega
  ·obtain rfl:K=i:=by omega
   go_wp2_with fail
   refine(HCO.out we HBE.out).mono ?_
   rintro e w5 ⟨⟨g,rfl,hge,hrow⟩,hb5⟩
   have HR:=Kh (hrow.congr (fun j hj=>by
    have hf:F.getD j 0∈F:=getD_mem hj
    rw[(HV.out _ hf).1]))
   have HSS:=Kh (show ∀ j,j<F.length→hq (Pot (stepQ n wt D (fun i=>X i (F.getD j 0)) f) b - Pot (stepQ n wt D (fun i=>X i (F.getD j 0)) f) a)≤60000000 from fun j hj=>by
    have hf:F.getD j 0∈F:=getD_mem hj
    rw[← (HV.out _ hf).1]
    exact(HV.out _ hf).2)
   have HB5:=bt HBE hb5
   have HGE:=Kh (Nat.le_trans HBE.out.size hge)
   clear hrow hb5 hge
   go_wp2
   (first|go_ret2|go_ret)
   exact⟨⟨g,rfl,HGE.out,HR.out,HSS.out⟩,HB5.out⟩
theorem c_lawTa (N k D:Int) (pa:Option Addr) (la ca:Nat) (xa:Nat→Int) (ps:Option Addr) (ls cs:Nat) (xs:Nat→Int) (w:World) (hT:Tab w)
  (hpa:∀ k,k<la→∃ g o,pa=some ⟨g,o,none⟩∧g<w.heap.size∧w.cell? ⟨g,o+k,none⟩=some (.int .i8 (xa k))) (hxa:∀ k,k<la→-128≤xa k∧xa k≤127)
  (hps:∀ k,k<ls→∃ g o,ps=some ⟨g,o,none⟩∧g<w.heap.size∧w.cell? ⟨g,o+k,none⟩=some (.int .i8 (xs k))) (hxs:∀ k,k<ls→-128≤xs k∧xs k≤127):
  Calls Tryz.prog 7 #[.agg #[.int .i64 N,.int .i64 k,.int .i64 D],.slice pa la ca,.slice ps ls cs] w fun e w'=>e=.returned (.bool true)∧Below w.heap.size w w':=by
 obtain⟨lb,hla,hnw⟩:=new_all N k D w hT
 have HLA:=Kh hla
 have HNW:=Kh hnw
 have HPO:=Kh (fun W (hb:Below w.heap.size w W) (m:Nat) (hm:m≤1000)=>c_Poly pa la ca xa m W (fun k hk=>by obtain⟨g,o,e,hg,hc⟩:=hpa k hk;exact⟨g,o,e,Nat.lt_of_lt_of_le hg hb.size,(hb.cell (p:=⟨g,o+k,none⟩) hg).trans hc⟩) hxa hm)
 have HCN:=Kh (fun W (hb:Below w.heap.size w W) (hl:ls≤12)=>c_Chain42 ps ls cs xs W (fun k hk=>by obtain⟨g,o,e,hg,hc⟩:=hps k hk;exact⟨g,o,e,Nat.lt_of_lt_of_le hg hb.size,(hb.cell (p:=⟨g,o+k,none⟩) hg).trans hc⟩) hxs hl)
 have HPS:=Kh (show ∀ j,hq (plU xa la j)≤4 from fun j=>Nat.le_trans (plU_size hxa) (by decide))
 have HT:=Kh hT
 clear hT hpa hxa hps hxs hla hnw
 go_enter Tryz.func7,Tryz.ntmps7
 go_wp2_with fail
 obtain⟨w0,hw0,XS,hb0⟩:=bx1 w #[.int .i64 N,.int .i64 k,.int .i64 D] 40
 rw[hw0]
 refine(c_awake42 w0 (HT.out.below hb0)).mono ?_
 rintro e wk ⟨rfl,hb1⟩
 have HXS1:=Kh (XS.below_ hb1 XS.lt)
 have HB1:=Kh (hb0.trans (hb1.mono hb0.size))
 clear hw0 XS hb0 hb1
 have s0:=HXS1.out.at_ 0 rfl
 have s1:=HXS1.out.at_ 1 rfl
 have s2:=HXS1.out.at_ 2 rfl
 go_wp2_with fail
 refine(HLA.out wk).mono ?_
 rintro e w2 ⟨rfl,hb2⟩
 have HXS2:=Kh (bk HXS1 hb2)
 have HB2:=bt HB1 hb2
 clear s0 s1 s2 hb2 HXS1 HB1
 cases lb with
 | true=>
  go_wp2
  go_ret
  exact⟨rfl,HB2.out⟩
 | false=>
  by_cases hl:12<ls
  ·have hli:(12:Int)<(ls:Int):=by omega
   go_wp2
   go_ret
   exact⟨rfl,HB2.out⟩
  ·have hli:¬ (12:Int)<(ls:Int):=by omega
   have s0:=HXS2.out.at_ 0 rfl
   have s1:=HXS2.out.at_ 1 rfl
   have s2:=HXS2.out.at_ 2 rfl
   go_wp2_with fail
   refine(HNW.out trivial w2 HB2.out).mono ?_
   rintro e w4 ⟨hret,hb4⟩
   have HXS4:=Kh (bk HXS2 hb4)
   have HB4:=bt HB2 hb4
   clear s0 s1 s2 hb4 HXS2 HB2 hli
   have HLS:=Kh (show ls≤12 by omega)
   rcases hret with⟨er,her,rfl⟩ |⟨n,wt,M,F,C,X,rfl,hkk,rfl,hmod⟩
   ·have hne:(er != 0)=true:=by rw[bne_iff_ne];exact her
    go_wp2
    go_ret
    exact⟨rfl,HB4.out⟩
   ·have HM4:=Kh hmod
    have hwt:wt≤22:=by have:=check_zero hmod.check;omega
    obtain⟨L,hL⟩:∃ L,wt+1=L:=⟨_,rfl⟩
    have hk1:k - 1=(L:Int):=by omega
    have hw1:IntKind.i64.wrap (L:Int)=(L:Int):=IntWalk.i64_in _ (by omega)
    have HPO4:=Kh (HPO.out w4 HB4.out L (by omega))
    have HL:=Kh hL
    clear hmod hwt hL hkk hl
    have s1:=HXS4.out.at_ 1 rfl
    go_wp2_with fail
    refine HPO4.out.mono ?_
    rintro e w5 ⟨⟨v5,rfl,ho5⟩,hb5⟩
    have HM5:=Kh (HM4.out.keep hb5)
    have HQ5:=Kh (show QL (fun j=>IsQ (plU xa la j)) w5 v5 (wt+1)by rw[HL.out];exact ho5.ql)
    obtain⟨p5,c5',rfl⟩:=ho5.ql.sl
    have HB5:=bt HB4 hb5
    clear s1 hb5 ho5 hk1 hw1 HM4 HPO4 HPO HXS4 HB4
    go_wp2_with fail
    refine(HCN.out w5 HB5.out HLS.out).mono ?_
    rintro e w6 ⟨⟨v6,rfl,ho6⟩,hb6⟩
    obtain⟨gl,cl,rfl,_,_,_,hgl,_,hcl,_⟩:=own_all ho6 (by rw[chL_length];omega)
    have HLT:=Kh hgl
    have HCA:=Kh ((cusps_cat (chL xs ls) (o:=0)).1 (by simpa using hcl))
    have HM6:=Kh (HM5.out.keep hb6)
    have HQ6:=Kh (HQ5.out.keep (fun _=>IsQ.solid _) hb6)
    have HB6:=bt HB5 hb6
    have HAL:=Kh (c_Along (HT.out.below HB6.out) HM6.out (.slice p5 L c5') (plU xa la) HQ6.out (fun j _=>HPS.out j) (chL_ok xs HLS.out) (chL_cusp xs HLS.out) gl 0 cl hgl HCA.out)
    obtain⟨K,hK⟩:∃ K,ls+1=K:=⟨_,rfl⟩
    have HK:=Kh hK
    rw[chL_length,hK]at HAL ⊢
    clear hb6 ho6 hgl hcl HM5 HQ5 HB5 HCN hK
    go_wp2_with fail
    refine HAL.out.mono ?_
    rintro e w7 ⟨⟨g7,rfl,hge7,hrow7,hsz7⟩,hb7⟩
    have HM7:=Kh (HM6.out.keep hb7)
    have HQ7:=Kh (HQ6.out.keep (fun _=>IsQ.solid _) hb7)
    have HB7:=bt HB6 hb7
    have HROW:=Kh hrow7
    have HSZ:=Kh hsz7
    have HC7:=Kh (HCA.out.keep HLT.out hb7)
    have hch:=chL_ok xs HLS.out
    have hcb:=chC_ok xs HLS.out
    have hin:=(hch.good (chC xs ls) (List.mem_of_getElem? hch.last)).1
    unfold InC at hin
    have HCB:=Kh hcb
    have HCO:=Kh (fun W (hb:Below w7.heap.size w7 W)=>c_CoordQ ((HT.out.below HB7.out).below hb) (HM7.out.keep hb) (.slice p5 L c5') (plU xa la) 1 0 (chC xs ls).1 (chC xs ls).2 (HQ7.out.keep (fun _=>IsQ.solid _) hb) (fun j _=>HPS.out j) (by decide) (by decide) (by decide) (by decide) (by omega) (by omega) (by omega) (by omega))
    have e0:=HC7.out 0 _ hch.first
    have hlst:(chL xs ls)[ls]?=some (chC xs ls):=by have h:=hch.last;rw[chL_length,Nat.add_sub_cancel]at h;exact h
    have e1:=HC7.out ls _ hlst
    dsimp only at e0 e1
    rw[Nat.zero_add,Nat.zero_mul]at e0
    rw[Nat.zero_add]at e1
    obtain⟨l0,l1⟩:=e0
    obtain⟨l2,l3⟩:=e1
    rw[Nat.zero_add]at l1
    have hs1:(K:Int) - 1=(ls:Int):=by have:=HK.out;omega
    have hs0:(0:Int)<(K:Int):=by have:=HK.out;omega
    have hs4:(ls:Int)<(K:Int):=by have:=HK.out;omega
    have hs2:IntKind.i64.wrap (ls:Int)=(ls:Int):=IntWalk.i64_in _ (by have:=HLS.out;omega)
    have hs3:ls<K:=by have:=HK.out;omega
    have hs5:0<K:=by have:=HK.out;omega
    clear hge7 hrow7 hsz7 hb7 hch hcb hin hlst HAL HM6 HQ6 HB6 HCA HC7 HLT
    go_upto_region 10 with(fail)
    refine rgX [13,14,15,16,17] (fun W=>W.cell? ⟨gl,0,none⟩=some (.int .i64 1)∧W.cell? ⟨gl,1,none⟩=some (.int .i64 0)∧W.cell? ⟨gl,ls*2,none⟩=some (.int .i64 (chC xs ls).1)∧W.cell? ⟨gl,ls*2+1,none⟩=some (.int .i64 (chC xs ls).2)) (fun W hb=>⟨cnx hb l0,cnx hb l1,cnx hb l2,cnx hb l3⟩) (fun HSE hHeld0=>?_)
    refine tkX 0 ?_;refine tkX 1 ?_;refine tkX 2 ?_;refine tkX 3 ?_;refine tkX 4 ?_;refine tkX 5 ?_;refine tkX 6 ?_;refine tkX 7 ?_;refine tkX 8 ?_;refine tkX 9 ?_;refine tkX 10 ?_;refine tkX 11 ?_
    refine snX 12 rfl (fun K hK=>?_)
    focus(go_simp;(with_reducible refine(HCO.out w7.drew (Below.refl _ w7).drew).mono ?_);rintro e w8 ⟨hr8,hb8⟩;obtain⟨pu,nu,cu,eu,rfl,hiu,hgu⟩:=hr8.uni;have HB8:=Kh ((Below.refl _ w7).drew.trans hb8:Below w7.heap.size w7 w8);have HGU:=Kh hgu;have HIU:=Kh hiu;clear hr8 hb8 hiu hgu;(first|with_reducible refine hK.out _ _ ?_ |(go_wp2_with fail;with_reducible refine hK.out _ _ ?_)))
    clear hK K
    (try simp only[Act.put,lsa,lsz,lss])
    refine tkJ 13 ?_;refine tkJ 14 ?_;refine tkJ 15 ?_;refine tkJ 16 ?_;refine tkJ 17 ?_
    refine dnX ?_
    obtain rfl:eu=0:=HIU.out.2 ⟨by decide,HCB.out⟩
    obtain⟨gu,rfl,rfl,rfl,_,hru,_⟩:=HGU.out rfl
    have HRU:=Kh (show QRow (fun j=>IsQ (Pot (stepQ n wt D (fun i=>X i (F.getD j 0)) (plU xa la)) (chC xs ls) - Pot (stepQ n wt D (fun i=>X i (F.getD j 0)) (plU xa la)) (1,0))) w8 gu F.length F.length from hru)
    have HR8:=Kh (HROW.out.keep (fun _=>IsQ.solid _) HB8.out)
    have HM8:=Kh (HM7.out.keep HB8.out)
    have HW8:=Kh (HB7.out.trans (HB8.out.mono HB7.out.size))
    have HFL:=Kh HM8.out.len
    have HDI:=Kh (c_Dim M w8.heap.size n ((wt:Int)+2) D F C X w8 HM8.out.mod)
    clear hru HROW HM7 HB7 HB8 HGU HIU HCO HQ7 HCB hs0 hs1 hs2 hs3 hs4 hs5
    obtain⟨FL,hFL⟩:∃ FL,F.length=FL:=⟨_,rfl⟩
    rw[hFL]at HRU HR8 HFL HDI HSZ ⊢
    clear hFL
    go_wp2_with fail
    refine HDI.out.mono ?_
    rintro e w' ⟨rfl,hw'⟩
    obtain rfl:w8=w':=hw'.symm
    clear hw'
    go_wp2_with fail
    refine(c_SameRats_eq _ _ FL _ w8 (HR8.out.ql FL) (HRU.out.ql FL) (by have:=HFL.out;omega) (fun j hj=>Nat.le_trans (HSZ.out j hj) (by omega))).mono ?_
    rintro e w9 ⟨rfl,hb9⟩
    have HB9:=bt HW8 hb9
    clear hb9
    go_wp2
    go_ret
    exact⟨rfl,HB9.out⟩
end Go.Proofs.YtijgdhijdfgpfaaGreatDoor
namespace Go.Proofs.YtijgdhijdfgpfaaGreatDoor
open Go.RowKit Go.ChangeShapes Go.WideShapes Go.Deep
theorem spot_of {w:World} {a:Addr} {v:Value} (h:w.cell? a=some v):a.spot=none:=by
 cases hsp:a.spot with
 | none=>rfl
 | some s=>
  simp only[World.cell?]at h
  split at h
  ·simp[hsp]at h
  ·cases h
theorem addr_of {w:World} {a:Addr} {v:Value} (h:w.cell? (a.add 0)=some v):∃ g o,a=⟨g,o,none⟩∧g<w.heap.size:=by
 have e:a.add 0=a:=by unfold Addr.add;rw[if_pos rfl]
 rw[e]at h
 have h1:=spot_of h
 have h2:=World.block_lt_of_cell? w a h
 obtain⟨g,o,s⟩:=a
 dsimp only at h1 h2
 subst h1
 exact⟨g,o,rfl,h2⟩
theorem wf_lo {k:IntKind} {n:Int} (h:(Lit.int k n).wf=true):k.min≤n∧n≤k.max:=by simpa [Lit.wf] using h
section
variable {H:Type} {enc:TypeId×Value→H} {w:World} {sp:Nat→Bool} {hd:Bool}
theorem trodAll_carry {P:Program} {W W':World}:∀ {ts:List TypeId} {vs:List Value} {ds:List (DataW H)} {ps:List MemPlace},DataW.TrodAll enc P W 0 sp hd ts vs ds ps→(∀ p∈ps,W.sameAt W' p)→DataW.TrodAll enc P W' 0 sp hd ts vs ds ps
 | [],[],[],_,h,_=>h
 | _ :: _,_ :: _,_ :: _,_,⟨p,q,⟨n,h1⟩,h2,e⟩,hs=>⟨p,q,⟨n,DataW.trod_carry n _ _ _ h1 (fun x hx=>hs x (by rw[e];exact List.mem_append_left _ hx))⟩,trodAll_carry h2 (fun x hx=>hs x (by rw[e];exact List.mem_append_right _ hx)),e⟩
end
theorem kidsAll:Kids Tryz.prog (·<Tryz.prog.types.size):=kids_rows (by kernel_rfl) (by kernel_rfl)
theorem fullAll:∀ t e,t<Tryz.prog.types.size→Tryz.prog.underlying t=some (.slice e)→0<Tryz.prog.cellsOf e:=slices_full_of Tryz.prog (by kernel_rfl)
end Go.Proofs.YtijgdhijdfgpfaaGreatDoor
namespace Go.Proofs.YtijgdhijdfgpfaaGreatDoor
open Go.ChangeShapes Go.WideShapes Go.ChangeAt Go.RowKit Go.Joins
theorem cells8i:Tryz.prog.cellsOf 42=1:=by kernel_rfl
section
variable {H:Type} {enc:TypeId×Value→H} {w:World} {sp:Nat→Bool} {hd:Bool}
theorem open_i8f {n:Nat} {v:Value} {y:DataW H×List MemPlace} (h:DataW.trod enc Tryz.prog w 0 sp hd n 41 [v]=some y):
  ∃ (p:Option Addr) (ln c:Nat) (x:Nat→Int),v=.slice p ln c∧(∀ k,k<ln→∃ g o,p=some ⟨g,o,none⟩∧g<w.heap.size∧w.cell? ⟨g,o+k,none⟩=some (.int .i8 (x k)))∧∀ k,k<ln→-128≤x k∧x k≤127:=by
 rcases open_ints Tryz.underlying41 Tryz.underlying42 cells8i h with⟨h1,_⟩ |⟨a,len,cap,zs,h1,_,h3,_,h5,_,h7,h8⟩
 ·have h2:v=.slice none 0 0:=by
   have h0:[v]=[.slice none 0 0]:=h1
   injection h0
  subst h2
  exact⟨none,0,0,fun _=>0,rfl,fun k hk=>absurd hk (Nat.not_lt_zero _),fun k hk=>absurd hk (Nat.not_lt_zero _)⟩
 ·have h2:v=.slice (some a) len cap:=by
   have h0:[v]=[.slice (some a) len cap]:=h1
   injection h0
  subst h2
  have hle:len≤zs.length:=by rw[h5];split <;> omega
  refine⟨some a,len,cap,fun i=>zs.getD i 0,rfl,fun k hk=>?_,fun k hk=>?_⟩
  ·obtain⟨g,o,rfl,hg⟩:=addr_of (h7 0 (by omega))
   have h9:=h7 k (by omega)
   rw[Addr.add_lit]at h9
   exact⟨g,o,rfl,hg,h9⟩
  ·have hk2:k<zs.length:=by omega
   have e:zs.getD k 0=zs[k]:=by rw[List.getD_eq_getElem?_getD,List.getElem?_eq_getElem hk2];rfl
   have h9:=wf_lo (h8 (zs.getD k 0) (by rw[e];exact List.getElem_mem hk2))
   exact h9
theorem open_i8 {r:Reach} {b0:Nat} {v:Value} {d:DataW H} {ps:List MemPlace} (hv:Value.okWide Tryz.prog w r b0 41 v) (h:DataW.Trod enc Tryz.prog w 0 sp hd 41 v d ps):
  ∃ (p:Option Addr) (ln c:Nat) (x:Nat→Int),v=.slice p ln c∧(∀ k,k<ln→∃ g o,p=some ⟨g,o,none⟩∧g<w.heap.size∧w.cell? ⟨g,o+k,none⟩=some (.int .i8 (x k)))∧∀ k,k<ln→-128≤x k∧x k≤127:=by
 obtain⟨p,ln,c,rfl⟩:=okWide_slice Tryz.underlying41 hv
 obtain⟨fuel,hf⟩:=h
 exact open_i8f (v:=.slice p ln c) hf
end
end Go.Proofs.YtijgdhijdfgpfaaGreatDoor
