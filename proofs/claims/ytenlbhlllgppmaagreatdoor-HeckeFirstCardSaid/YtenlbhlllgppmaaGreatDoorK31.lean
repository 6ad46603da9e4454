/- Contract of symbols.New: the space of modular symbols, given what manin.Relations returns. -/
import Derived.Test.YtenlbhlllgppmaaGreatDoorK30
import Derived.Test.YtenlbhlllgppmaaGreatDoorK26
set_option maxRecDepth 100000
set_option maxHeartbeats 8000000
namespace Go.Proofs.YtenlbhlllgppmaaGreatDoor
open Go.RowKit Eli
def RelRet (R C:Nat) (f:Nat→Int) (e:Ending) (w':World):Prop:=
 ∃ gA oA cA,e=.returned (.tuple #[.agg #[.int .i64 R,.int .i64 C,.slice (some ⟨gA,oA,none⟩) (R*C:Nat) cA],.int .i64 0])∧gA<w'.heap.size∧(∀ j,j<R*C→ZE (f j) w' gA (oA+j*2))∧R*C≤cA∧cA≤9223372036854775807
theorem RowTab.start {X X':Nat→Nat→Rat} {N:Nat} {w w':World} {GR C B B' B'':Nat} (h:RowTab X N w GR C C B) (hb:Below B' w w') (hG:GR<B'):RowTab X' N w' GR C C B'':=
 ⟨⟨Nat.lt_of_lt_of_le h.stk.1 hb.size,fun i v hv=>h.stk.2 i v ((hb.cell (p:=⟨GR,i,none⟩) hG).symm.trans hv)⟩,
  fun i hi=>(World.frozen?_of_block (a:=⟨GR,i,none⟩) (hb.block GR hG)).trans (h.free i hi),
  fun i hi=>by rw[hb.cell (p:=⟨GR,i,none⟩) hG];exact h.has i hi,
  fun j h1 h2=>absurd h2 (by omega)⟩
theorem NL.but {l:List Nat} {w w':World} {B G:Nat} {v:Value} (h:NL l w B v) (hg:w.grownBy w' (some G)) (hne:∀ g,v.ownBlock=some g→g≠G):NL l w' B v:=by
 rcases h with h |⟨g,cap,e,hc,hc2,hgB,hx⟩
 ·exact .inl h
 ·exact .inr ⟨g,cap,e,hc,hc2,hgB,fun j x hj=>hg.cell (hx j x hj) (fun e2=>by injection e2 with e2;exact hne g (by rw[e];rfl) e2)⟩
theorem tlr_map (X:Nat→Nat→Rat) (h:Nat→Nat) (r:List (Nat×Rat)) (i:Nat):tlr (fun j i=>X j (h i)) r i=tlr X r (h i):=by
 induction r with
 | nil=>rfl
 | cons x r ih=>rw[tlr,tlr,ih]
theorem frs_idx {L:Nat→List (Nat×Rat)} {C j i:Nat} (hj:j<C) (hl:L j=[]) (hi:i<(frs L C).length):(frs L C).getD i 0=j↔i=(frs L j).length:=by
 obtain⟨h1,h2⟩:=frs_at L hj hl
 have h3:(frs L C).getD i 0=(frs L C)[i]:=by rw[List.getD_eq_getElem?_getD,List.getElem?_eq_getElem hi];rfl
 have h4:(frs L C)[(frs L j).length]=j:=by rw[List.getElem?_eq_getElem h1]at h2;injection h2
 have hp:=List.pairwise_iff_getElem.1 (frs_pairwise L C)
 rw[h3]
 constructor
 ·intro e
  rcases Nat.lt_trichotomy i (frs L j).length with h|h|h
  ·have:=hp i _ hi h1 h;omega
  ·exact h
  ·have:=hp _ i h1 hi h;omega
 ·intro e;subst e;exact h4
theorem c_New_ok (N k D:Int) (R C:Nat) (f:Nat→Int) (w:World) (hrel:∀ w1,Below w.heap.size w w1→Calls Tryz.prog 47 #[.agg #[.int .i64 N,.int .i64 k,.int .i64 D]] w1 fun e w'=>RelRet R C f e w'∧Below w1.heap.size w1 w')
  (hR:R≤1000) (h0:0<C) (hC:C≤72) (hf:∀ j,(f j).natAbs≤16777216):
  Calls Tryz.prog 11 #[.agg #[.int .i64 N,.int .i64 k,.int .i64 D]] w fun e w'=>(∃ M,e=.returned (.tuple #[.pointer (some ⟨M,0,none⟩),.int .i64 0])∧w.heap.size≤M∧ModAt w' M w'.heap.size N k D (frs (elim C (rowF C f) R) C) C (crd (elim C (rowF C f) R) C C))∧Below w.heap.size w w':=by
 have HREL:=Kh hrel
 have HGL:=Kh (Good.elim (n:=C) (B:=16777216) (by omega) (rowF_small hf) (rowF_zero C f) R)
 have HF:=Kh hf
 have hmk:=makeR C (by omega)
 obtain⟨L,hL⟩:∃ L,elim C (rowF C f) R=L:=⟨_,rfl⟩
 rw[hL]at HGL ⊢
 have HL:=Kh hL
 clear hrel hf hL
 go_enter Tryz.func11,Tryz.ntmps11
 go_wp2_with fail
 obtain⟨w0,hw0,X0,hb0⟩:=bx1 w #[.int .i64 N,.int .i64 k,.int .i64 D] 23
 rw[hw0]
 have q113:∀ (w:World) (a:Option Addr) (n c n' c':Nat),(binOp .eql 107 (.slice a n c) (.slice none n' c')).run Tryz.prog w=.ok (.bool a.isNone) w:=fun w a n c n' c'=>Lib.run_eql_slice_nil w _ _ a n c n' c' Tryz.underlying107
 have HX0:=Kh X0
 have HB0:=Kh hb0
 clear hw0
 refine(HREL.out w0 hb0).mono ?_
 rintro e w1 ⟨⟨gA,oA,cA,rfl,hg1,hA,hc1,hc2⟩,hb1⟩
 go_wp2_with fail
 have HBA:=Kh (hb0.trans (hb1.mono hb0.size))
 have HX1:=Kh ((HX0.out.below_ hb1 (by have:=X0.lt;exact this)))
 obtain⟨w2,hw2,X2,hb2⟩:=bx1 w1 #[.int .i64 R,.int .i64 C,.slice (some ⟨gA,oA,none⟩) (R*C) cA] 99
 rw[hw2]
 have HX2:=Kh (bk HX1 hb2)
 refine(c_eliminate R C gA oA cA f w2 (Nat.lt_of_lt_of_le hg1 hb2.size) (fun j hj=>(hA j hj).keep hb2) hR h0 hC hc1 hc2 HF.out).mono ?_
 rintro e w3 ⟨⟨G,rfl,hG2,htab⟩,hb3⟩
 rw[HL.out]at htab
 have HTAB:=Kh htab
 have HB3:=Kh (HBA.out.trans ((hb2.trans (hb3.mono hb2.size)).mono HBA.out.size))
 have HX3:=Kh (bk HX2 hb3)
 have a0:=HX3.out.at_ 0 rfl
 have a1:=HX3.out.at_ 1 rfl
 have a2:=HX3.out.at_ 2 rfl
 clear X0 hb0 hb1 hg1 hA hc1 hc2 hw2 X2 hb2 htab hb3 HREL HL HF HX0 HX1 HX2 HBA HB0 hG2
 go_upto_region 5 with(fail)
 have HS1:=Kh (show ∀ w4,Below w3.heap.size w3 w4→(w4.cell? ⟨w.heap.size,0,none⟩=some (.int .i64 N)∧w4.cell? ⟨w.heap.size,1,none⟩=some (.int .i64 k)∧w4.cell? ⟨w.heap.size,2,none⟩=some (.int .i64 D))from fun w4 hb=>⟨cell_next hb a0,cell_next hb a1,cell_next hb a2⟩)
 have hS0:=HS1.out _ (Below.refl _ w3).drew
 go_region_held3 (fun w4=>w4.cell? ⟨w.heap.size,0,none⟩=some (.int .i64 N)∧w4.cell? ⟨w.heap.size,1,none⟩=some (.int .i64 k)∧w4.cell? ⟨w.heap.size,2,none⟩=some (.int .i64 D))
  (first|with_reducible exact hS0|exact HS1.out _ ((Below.refl _ w3).drew.alloc (Nat.le_refl _) _)|exact HS1.out _ (((Below.refl _ w3).alloc (Nat.le_refl _) _).drew)|exact HS1.out _ (((Below.refl _ w3).drew.alloc (Nat.le_refl _) _).alloc (Nat.le_of_lt (by simp)) _)|exact HS1.out _ ((((Below.refl _ w3).alloc (Nat.le_refl _) _).drew).alloc (Nat.le_of_lt (by simp)) _) |(exfalso;assumption))
  (fail)
 all_goals go_wp2
 obtain⟨wn,hwn⟩:∃ wn,((w3.alloc (.cells (madeCells #[.slice none 0 0] C) 30)).alloc (.cells #[.int .i64 N,.int .i64 k,.int .i64 D,.slice none 0 0,.slice (some ⟨w3.heap.size,0,none⟩) C C] 106)).drew=wn:=⟨_,rfl⟩
 have hbm:Below w3.heap.size w3 (w3.alloc (.cells (madeCells #[.slice none 0 0] C) 30)):=(Below.refl _ _).alloc (Nat.le_refl _) _
 have hbn:Below (w3.alloc (.cells (madeCells #[.slice none 0 0] C) 30)).heap.size (w3.alloc (.cells (madeCells #[.slice none 0 0] C) 30)) wn:=hwn▸((Below.refl _ _).alloc (Nat.le_refl _) _).drew
 have hsm:(w3.alloc (.cells (madeCells #[.slice none 0 0] C) 30)).heap.size=w3.heap.size+1:=by simp
 have hsn:wn.heap.size=w3.heap.size+1+1:=by
  have hdr:∀ x:World,x.drew.heap.size=x.heap.size:=fun _=>rfl
  rw[← hwn,hdr];simp
 obtain⟨F,hF⟩:∃ F,frs L C=F:=⟨_,rfl⟩
 have HFE:=Kh hF
 have hFl:F.length≤C:=hF▸frs_length L C
 have hrow:=RowTab.made (fun j i=>crd L C 0 j (F.getD i 0)) F.length w3 C
 have hrow:=(hrow.keep (Nat.le_of_eq hsm.symm) hbn)
 have hmb:Blk wn (w3.heap.size+1) 106 #[.int .i64 N,.int .i64 k,.int .i64 D,.slice none 0 0,.slice (some ⟨w3.heap.size,0,none⟩) C C]:=by
  have h:=Blk.new (w3.alloc (.cells (madeCells #[.slice none 0 0] C) 30)) 106 #[.int .i64 N,.int .i64 k,.int .i64 D,.slice none 0 0,.slice (some ⟨w3.heap.size,0,none⟩) C C]
  rw[hsm]at h
  exact hwn▸h.below_ (Below.refl _ _).drew h.lt
 have HW3:=Kh (hbm.trans (hbn.mono hbm.size))
 rw[hwn]
 obtain⟨GR,hGR⟩:∃ GR,w3.heap.size=GR:=⟨_,rfl⟩
 obtain⟨M,hM⟩:∃ M,GR+1=M:=⟨_,rfl⟩
 have HWM:=Kh (show w.heap.size≤GR from hGR▸HB3.out.size)
 have HLT:=Kh (show ∀ w',Below GR w3 w'→LeadTab L w' G C GR from fun w' hb=>hGR▸HTAB.out.keep (Nat.le_refl _) (hGR▸hb))
 have HGRL:=Kh (show G<GR from hGR▸HTAB.out.stk.1)
 rw[hGR]at HW3
 rw[hGR]at hrow hmb hsn ⊢
 rw[hM]at hrow hmb hsn ⊢
 have HROW:=Kh hrow
 have HMB:=Kh hmb
 have HSN:=Kh hsn
 have HBW:=Kh (HB3.out.trans (HW3.out.mono HWM.out))
 have HG3:=Kh hGR
 have HGM:=Kh hM
 have HHF:=Kh hFl
 clear hrow hmb hsn hwn hbm hbn hsm HS1 hS0 hGR hM hF hFl a0 a1 a2 HX3 HTAB hmk HB3
 go_loopw [34] (fun ii wr=>∃ (j:Nat) (fv:Value),j≤C∧ii=.int .i64 j∧Blk wr M 106 #[.int .i64 N,.int .i64 k,.int .i64 D,fv,.slice (some ⟨GR,0,none⟩) C C]∧OwnN (frs L j) wr (M+1) fv∧Below M wn wr) (fun ii _=>C - (intOf ii).toNat)
 case atStart=>exact⟨0,_,Nat.zero_le _,rfl,HMB.out,OwnN.nil _ _,Below.refl _ _⟩
 case round=>
  obtain⟨j,fv,hj,rfl,hmb,hown,hbr⟩:=hrel
  have HMB1:=Kh hmb
  have HOWN:=Kh hown
  have HBR:=Kh hbr
  have HB1:=Kh (HW3.out.trans (hbr.mono (HGM.out▸Nat.le_succ _)))
  clear hmb hown hbr HMB
  by_cases hjc:j<C
  ·have hjci:(j:Int)<(C:Int):=by omega
   obtain⟨lv,l0,htl,hnil⟩:=(HLT.out wr HB1.out).val j hjc
   by_cases hL0:L j=[]
   ·obtain rfl:=hnil hL0
    have HL0:=Kh hL0
    have m3:=HMB1.out.at_ 3 rfl
    have f3:=HMB1.out.free_ 3
    clear hL0 hnil htl
    obtain⟨xs,hKO⟩:∃ xs,OwnK NotU32 wr (M+1) 3 1 fv (frs L j).length xs∧xs=(frs L j).map fun n:Nat=>Value.int .i64 (n:Int):=⟨_,HOWN.out,rfl⟩
    have HKO:=Kh hKO
    have hMl:=HMB1.out.lt
    have HLN:=Kh (Nat.le_trans (frs_length L j) hj)
    clear hKO
    go_wp2_with (at_builtin;refine wpl_app2 NotU32 rfl (.tmp 45) (.tmp 47) _ 3 rfl Tryz.underlying93 intInfo rfl (by decide) (M+1) (frs L j).length fv xs [.int .i64 (j:Int)] rfl HKO.out.1 rfl rfl (by intro u hu;simp at hu;subst hu;rfl) (by have:=HLN.out;omega) (by have:=HLN.out;omega) (by omega) (by intro u hu;simp at hu;subst hu;exact fun _ h=>by cases h) (by intro u hu;simp[Value.cells]at hu;subst hu;exact fun _ h=>by cases h) ?_;intro v9 w9 hown9 hgr9 hat9;obtain⟨p9,c9,rfl⟩:=own_slice hown9.1;have HO9:=Kh hown9;have HG9:=Kh hgr9;have hm9:=HG9.out.block M hMl (fun e=>by have:=own_ge HKO.out.1.1 e;omega);have hmb9:Blk w9 M 106 #[.int .i64 N,.int .i64 k,.int .i64 D,fv,.slice (some ⟨GR,0,none⟩) C C]:=(by have h:=HMB1.out;unfold Blk at h ⊢;rw[hm9];exact h);have HMB9:=Kh hmb9;have n3:=hmb9.at_ 3 rfl;have nf3:=hmb9.free_ 3;clear hown9 hgr9 hat9 hm9 hmb9)
    have HBW9:=Kh (show Below M wn w9 from HBR.out.trans ((own_below (Below.refl _ _) HKO.out.1.1 HG9.out (Nat.le_refl _) (by omega)).mono (Nat.le_succ M)))
    have HOS:=Kh (show OwnN (frs L (j+1)) (w9.setCell ⟨M,3,none⟩ (.slice p9 ((frs L j).length+1) c9)) (M+1) (.slice p9 ((frs L j).length+1) c9)by
     rw[frs_succ,if_pos HL0.out]
     refine OwnN.push ?_
     rw[← HKO.out.2]
     exact⟨ownsRow_setCell_below HO9.out.1 (Nat.lt_succ_self M) _,fun g hg=>stk_put (HO9.out.2 g hg) _ _ (fun _ h=>by cases h)⟩)
    go_roundw
    case rel=>exact⟨j+1,_,by omega,by go_num,HMB9.out.set_ 3 _,HOS.out,HBW9.out.setCell (p:=⟨M,3,none⟩) (Nat.le_refl _) _⟩
    case measure=>simp[intOf];omega
   ·obtain⟨b,hb⟩:=(HGL.out.head j).resolve_left hL0
    have htl2:=htl
    rw[hb]at htl2
    obtain⟨gl,ol,cl,rfl,_,_,_,_,_⟩:=htl2.cons
    have HL0:=Kh (show frs L (j+1)=frs L j by rw[frs_succ,if_neg hL0])
    clear hL0 hnil htl htl2 hb
    go_wp2
    go_roundw
    case rel=>exact⟨j+1,fv,by omega,by go_num,HMB1.out,by rw[HL0.out];exact HOWN.out,HBR.out⟩
    case measure=>simp[intOf];omega
  ·obtain rfl:C=j:=by omega
   obtain⟨pf,cf,rfl⟩:=own_slice (show OwnK NotU32 wr (M+1) 3 1 fv (frs L C).length _ from HOWN.out).1
   rw[HFE.out]at HOWN HMB1
   obtain⟨wp,rfl⟩:∃ wp:World,wp=wr:=⟨_,rfl⟩
   have HNE:=Kh (fun g (hg:(Value.slice pf F.length cf).ownBlock=some g)=>show g≠GR by
    have h1:=own_ge (show OwnK NotU32 wp (M+1) 3 1 (.slice pf F.length cf) F.length _ from HOWN.out).1 hg.symm
    have:=HGM.out
    omega)
   have HNL:=Kh (show NL F wp wp.heap.size (.slice pf F.length cf)from OwnN.nl HOWN.out)
   have HRT:=Kh (show RowTab (fun j i=>crd L C 0 j (F.getD i 0)) F.length wp GR C C wp.heap.size from HROW.out.start HBR.out (HGM.out▸Nat.lt_succ_self GR))
   have m3:=HMB1.out.at_ 3 rfl
   have HFL:=Kh (show(frs L C).length=F.length by rw[HFE.out])
   have HBP:=Kh (show GR≤wp.heap.size by have:=HMB1.out.lt;have:=HGM.out;omega)
   have hMG:M≠GR:=by have:=HGM.out;omega
   have hmkQ:=makeQ F.length (by have:=HHF.out;omega)
   clear HOWN HROW
   have hF72:F.length≤72:=Nat.le_trans HHF.out hC
   go_wp2_with fail
   go_loopw [10,11] (fun v10 v11 w5=>∃ q:Nat,q≤C∧v10=.int .i64 ((frs L (C - q)).length:Nat)∧v11=.int .i64 ((C:Int) - 1 - (q:Nat))∧RowTab (fun j i=>crd L C q j (F.getD i 0)) F.length w5 GR C (C - q) w5.heap.size∧wp.grownBy w5 (some GR)∧I32 wp w5) (fun _ v11 _=>(intOf v11+1).toNat)
   case atStart=>exact⟨0,Nat.zero_le _,by rw[Nat.sub_zero,HFE.out],by congr 1;omega,by rw[Nat.sub_zero];exact HRT.out,but_below GR (Below.refl _ _),I32.refl _⟩
   case round=>
    obtain⟨q,hqle,rfl,rfl,hrt,hgr,h32⟩:=hrel
    obtain⟨w5,rfl⟩:∃ w5:World,w5=wr:=⟨_,rfl⟩
    have HGR5:=Kh hgr
    have H325:=Kh h32
    have HRT5:=Kh hrt
    have HBL:=Kh (show Below GR w3 w5 from below_but HB1.out hgr HBP.out (Nat.le_refl _))
    clear hrt hgr h32 HRT m3
    by_cases hqC:q<C
    ·obtain⟨j,hj⟩:∃ j,j+1+q=C:=⟨C - 1 - q,by omega⟩
     have e11:(C:Int) - 1 - (q:Int)=(j:Nat):=by omega
     have ej:C - q=j+1:=by omega
     have hj0:(0:Int)≤(j:Int):=by omega
     have hjC:j<C:=by omega
     have hjCi:(j:Int)<(C:Int):=by omega
     rw[e11,ej]
     rw[ej]at HRT5
     have HEJ:=Kh hj
     have m3:=HGR5.out.cell (HMB1.out.at_ 3 rfl) (fun e=>by injection e with e;exact hMG e)
     have m4:=HGR5.out.cell (HMB1.out.at_ 4 rfl) (fun e=>by injection e with e;exact hMG e)
     clear e11 ej hj
     have HFIN:=Kh (show ∀ w8,Below w5.heap.size w5 w8→QRow (fun i=>IsQ (Eli.newRow L (crd L C q) j (F.getD i 0))) w8 w5.heap.size F.length F.length →
       RowTab (fun j i=>crd L C (q+1) j (F.getD i 0)) F.length (w8.setCell ⟨GR,j,none⟩ (.slice (some ⟨w5.heap.size,0,none⟩) F.length F.length)) GR C (C - (q+1)) (w8.setCell ⟨GR,j,none⟩ (.slice (some ⟨w5.heap.size,0,none⟩) F.length F.length)).heap.size ∧
       wp.grownBy (w8.setCell ⟨GR,j,none⟩ (.slice (some ⟨w5.heap.size,0,none⟩) F.length F.length)) (some GR)∧I32 wp (w8.setCell ⟨GR,j,none⟩ (.slice (some ⟨w5.heap.size,0,none⟩) F.length F.length))by
      intro w8 hb hrow
      have h1:=(HRT5.out.keep (Nat.le_refl _) hb).up hb.size
      have e1:C - (q+1)=j:=by have:=HEJ.out;omega
      have e2:C - 1 - q=j:=by have:=HEJ.out;omega
      rw[e1]
      refine⟨(h1.put (X':=fun j i=>crd L C (q+1) j (F.getD i 0)) hjC hrow.sts.1 (Nat.ne_of_gt HRT5.out.stk.1) (fun i hi=>?_) (fun j' h1 h2 i hi=>?_)).up (Nat.le_of_eq (by simp)),(HGR5.out.trans (but_below GR hb)).trans (but_put w8 GR j _),(H325.out.trans (I32.below hb)).trans (I32.putU (h1.stk.imp fun _=>SliceV.notU32) j _)⟩
      ·have h:=hrow.val i hi
       have e3:crd L C (q+1) j (F.getD i 0)=Eli.newRow L (crd L C q) j (F.getD i 0):=by rw[crd];simp only;rw[if_pos e2.symm]
       rw[e3]
       exact h
      ·rw[crd];simp only;rw[if_neg (by omega)])
     go_wp2_with fail
     have hrm:=QRow.made (fun _=>IsQ 0) w5 F.length
     obtain⟨wx,hwx⟩:∃ wx,w5.alloc (.cells (madeCells #[.bool false,.slice none 0 0,.bool false,.slice none 0 0] (F.length*4)) 86)=wx:=⟨_,rfl⟩
     have hbx:Below w5.heap.size w5 wx:=hwx▸(Below.refl _ _).alloc (Nat.le_refl _) _
     rw[hwx]at hrm ⊢
     have HRM:=Kh hrm
     have HBX:=Kh hbx
     clear hrm hbx hwx
     go_loopw [72] (fun ii w6=>∃ i:Nat,i≤F.length∧ii=.int .i64 i∧QRow (fun _=>IsQ 0) w6 w5.heap.size F.length i∧Below w5.heap.size w5 w6) (fun ii _=>F.length - (intOf ii).toNat)
     case atStart=>exact⟨0,Nat.zero_le _,rfl,HRM.out,HBX.out⟩
     case round=>
      obtain⟨i,hi,rfl,hrow,hb6⟩:=hrel
      obtain⟨w6,rfl⟩:∃ w6:World,w6=wr:=⟨_,rfl⟩
      have HROW6:=Kh hrow
      have HB6:=Kh hb6
      clear hrow hb6 HRM HBX
      by_cases hiF:i<F.length
      ·have hii:(i:Int)<(F.length:Int):=by omega
       go_wp2_with fail
       refine(c_qOf 0 w6 (by omega) (by omega)).mono ?_
       rintro e w7 ⟨⟨s3,p3,n3,c3,t3,q3,m3',d3,rfl,hq3⟩,hb3⟩
       have hr3:=QRow.keep (fun _=>IsQ.solid _) HROW6.out hb3
       have HQA:=Kh (QRow.set (k':=i+1) (fun _=>IsQ.solid _) hr3 i hiF (fun _=>IsQ 0) (IsQ.solid _) (fun i' h1 h2=>⟨by omega,rfl⟩) (show IsQ 0 w7 s3 p3 n3 c3 t3 q3 m3' d3 from hq3))
       have HB7:=bt HB6 hb3
       obtain⟨u0,hu0⟩:=Option.isSome_iff_exists.1 (hr3.has (i*4) (by omega))
       obtain⟨u1,hu1⟩:=Option.isSome_iff_exists.1 (hr3.has (i*4+1) (by omega))
       obtain⟨u2,hu2⟩:=Option.isSome_iff_exists.1 (hr3.has (i*4+2) (by omega))
       obtain⟨u3,hu3⟩:=Option.isSome_iff_exists.1 (hr3.has (i*4+3) (by omega))
       have f0:=hr3.free (i*4) (by omega)
       have f1:=hr3.free (i*4+1) (by omega)
       have f2:=hr3.free (i*4+2) (by omega)
       have f3:=hr3.free (i*4+3) (by omega)
       clear hq3 hb3 hr3
       go_wp2
       go_roundw
       case rel=>exact⟨i+1,by omega,by go_num,HQA.out,below_put4g HB7.out⟩
       case measure=>simp[intOf];omega
      ·obtain rfl:F.length=i:=by omega
       obtain⟨lv,l5,htl,hnil⟩:=(HLT.out w5 HBL.out).val j hjC
       have l0:=cell_next HB6.out l5
       clear l5
       by_cases hL0:L j=[]
       ·obtain rfl:=hnil hL0
        have hfa:=frs_at L hjC hL0
        have hfi:=fun i (hi:i<F.length)=>frs_idx (i:=i) hjC hL0 (by rw[HFE.out];exact hi)
        have e10:(frs L (j+1)).length=(frs L j).length+1:=by rw[frs_succ,if_pos hL0,List.length_append];rfl
        rw[HFE.out]at hfa hfi
        obtain⟨pos,hpos⟩:∃ pos,(frs L j).length=pos:=⟨_,rfl⟩
        rw[hpos]at hfa hfi e10
        rw[e10]
        have HFI:=Kh hfi
        have hpl:=hfa.1
        have HL0:=Kh hL0
        have HPOS:=Kh hpos
        have hpi:(pos:Int)<(F.length:Int):=by omega
        have hp0:(0:Int)≤(pos:Int):=by omega
        clear hL0 hnil htl hfa hfi e10 hpos
        go_wp2_with fail
        refine(c_qOf 1 w6 (by omega) (by omega)).mono ?_
        rintro e w7 ⟨⟨s3,p3,n3,c3,t3,q3,m3',d3,rfl,hq3⟩,hb3⟩
        have hr3:=QRow.keep (fun _=>IsQ.solid _) HROW6.out hb3
        have hqa:=QRow.set (k':=F.length) (fun _=>IsQ.solid _) hr3 pos hpl (fun i=>IsQ (Eli.newRow L (crd L C q) j (F.getD i 0))) (IsQ.solid _) (fun i' h1 h2=>⟨h1,by
         show IsQ 0=_
         rw[Eli.newRow,if_pos HL0.out,if_neg (fun e=>h2 ((HFI.out i' h1).1 e))]⟩) (show IsQ (Eli.newRow L (crd L C q) j (F.getD pos 0)) w7 s3 p3 n3 c3 t3 q3 m3' d3 by
         rw[Eli.newRow,if_pos HL0.out,if_pos ((HFI.out pos hpl).2 rfl)];exact hq3)
        have hb7:=HB6.out.trans (hb3.mono HB6.out.size)
        have HEND:=Kh (HFIN.out _ (below_put4g hb7) hqa)
        obtain⟨u0,hu0⟩:=Option.isSome_iff_exists.1 (hr3.has (pos*4) (by omega))
        obtain⟨u1,hu1⟩:=Option.isSome_iff_exists.1 (hr3.has (pos*4+1) (by omega))
        obtain⟨u2,hu2⟩:=Option.isSome_iff_exists.1 (hr3.has (pos*4+2) (by omega))
        obtain⟨u3,hu3⟩:=Option.isSome_iff_exists.1 (hr3.has (pos*4+3) (by omega))
        have f0:=hr3.free (pos*4) (by omega)
        have f1:=hr3.free (pos*4+1) (by omega)
        have f2:=hr3.free (pos*4+2) (by omega)
        have f3:=hr3.free (pos*4+3) (by omega)
        have hb8:Below w5.heap.size w5 ((((w7.setCell ⟨w5.heap.size,pos*4,none⟩ (.bool s3)).setCell ⟨w5.heap.size,pos*4+1,none⟩ (.slice p3 n3 c3)).setCell ⟨w5.heap.size,pos*4+2,none⟩ (.bool t3)).setCell ⟨w5.heap.size,pos*4+3,none⟩ (.slice q3 m3' d3)):=below_put4g hb7
        have m8:=cell_next hb8 m4
        have hR8:=HRT5.out.keep (Nat.le_refl _) hb8
        obtain⟨uG,hG8⟩:=Option.isSome_iff_exists.1 (hR8.has j hjC)
        have hf8:=hR8.free j hjC
        have HM8:=Kh (And.intro m8 (And.intro hG8 hf8))
        have HQ:=Kh (show(C:Int) - 1 - ((q+1:Nat):Int)=(j:Int) - 1 by have:=HEJ.out;omega)
        have HE1:=Kh (show C - (q+1)=j by have:=HEJ.out;omega)
        clear hq3 hb3 hr3 hqa hb7 hb8 m8 hR8 hG8 hf8 m3 m4
        go_upto_region 30 with(fail)
        have m8:=HM8.out.1
        have hG8:=HM8.out.2.1
        have hf8:=HM8.out.2.2
        obtain⟨w8,hw8⟩:∃ w8,((((w7.setCell ⟨w5.heap.size,pos*4,none⟩ (.bool s3)).setCell ⟨w5.heap.size,pos*4+1,none⟩ (.slice p3 n3 c3)).setCell ⟨w5.heap.size,pos*4+2,none⟩ (.bool t3)).setCell ⟨w5.heap.size,pos*4+3,none⟩ (.slice q3 m3' d3))=w8:=⟨_,rfl⟩
        rw[hw8]at m8 hG8 hf8 HEND ⊢
        clear hw8 HM8 hu0 hu1 hu2 hu3 f0 f1 f2 f3
        go_wp2
        go_roundw
        case rel=>exact⟨q+1,by omega,by rw[HE1.out,HPOS.out],by rw[HQ.out],HEND.out.1,HEND.out.2.1,HEND.out.2.2⟩
        case measure=>simp[intOf]
       ·obtain⟨b,hb⟩:=(HGL.out.head j).resolve_left hL0
        have htl2:=htl
        rw[hb]at htl2
        obtain⟨gl,ol,cl,rfl,hcl,hcl2,hgl,_,htb⟩:=htl2.cons
        have hord:=HGL.out.ord j
        rw[hb]at hord
        have HORD:=Kh hord.2.2.2
        have HBS:=Kh (show ∀ x,x∈b→hq x.2≤80 from fun x hx=>Nat.le_trans (HGL.out.size j x (by rw[hb];exact List.mem_cons_of_mem _ hx)) (top_72 hC (Nat.le_refl _)))
        have HBL72:=Kh (show b.length≤72 from Nat.le_trans (ord_length hord.2.2.2) (by omega))
        have HLJ:=Kh (And.intro hb hL0)
        have hcb:b.length≤cl:=hcl
        have hb72:b.length≤72:=HBL72.out
        clear hL0 hnil htl htl2 hb hord
        rcases Nat.eq_zero_or_pos cl with hcl0|hcl0
        ·subst hcl0
         have hb0:b=[]:=List.eq_nil_of_length_eq_zero (by omega)
         subst hb0
         have HROW60:=Kh (show QRow (fun f=>IsQ (tlr (fun j i=>crd L C q j (F.getD i 0)) (List.take 0 ([]:List (Nat×Rat))).reverse f)) w6 w5.heap.size F.length F.length from HROW6.out)
         clear htb hcl hgl hcb hb72 HROW6
         rw[List.length_nil]at l0
         go_wp2_with fail
         go_loopw [97] (fun ii w8=>ii=.int .i64 0∧QRow (fun f=>IsQ (tlr (fun j i=>crd L C q j (F.getD i 0)) (List.take 0 ([]:List (Nat×Rat))).reverse f)) w8 w5.heap.size F.length F.length∧Below w5.heap.size w5 w8) (fun _ _=>0)
         case atStart=>exact⟨rfl,HROW60.out,HB6.out⟩
         case round=>
          obtain⟨rfl,hrow8,hb8⟩:=hrel
          obtain⟨w8,rfl⟩:∃ w8:World,w8=wr:=⟨_,rfl⟩
          have HROW8:=Kh hrow8
          have HB8:=Kh hb8
          clear hrow8 hb8 HROW60 HB6 l0
          have HEND:=Kh (HFIN.out w8 HB8.out (QRow.congr HROW8.out (fun f hf=>by rw[tlr_map (crd L C q) (fun i=>F.getD i 0),Eli.newRow,if_neg HLJ.out.2,HLJ.out.1];rfl)))
          have hR8:=HRT5.out.keep (Nat.le_refl _) HB8.out
          have m8:=cell_next HB8.out m4
          obtain⟨uG,hG8⟩:=Option.isSome_iff_exists.1 (hR8.has j hjC)
          have hf8:=hR8.free j hjC
          have HQ:=Kh (show(C:Int) - 1 - ((q+1:Nat):Int)=(j:Int) - 1 by have:=HEJ.out;omega)
          have HE1:=Kh (show C - (q+1)=j by have:=HEJ.out;omega)
          have HFE1:=Kh (show(frs L (j+1)).length=(frs L j).length by rw[frs_succ,if_neg HLJ.out.2])
          clear hR8
          go_wp2
          go_roundw
          case rel=>exact⟨q+1,by omega,by rw[HE1.out,HFE1.out],by rw[HQ.out],HEND.out.1,HEND.out.2.1,HEND.out.2.2⟩
          case measure=>simp[intOf]
        go_wp2_with fail
        have HTB:=Kh htb
        have hR5:=HRT5.out.stk.1
        clear htb l0 hcl hgl
        have HQ0:=Kh (show QRow (fun f=>IsQ (tlr (fun j i=>crd L C q j (F.getD i 0)) (b.take 0).reverse f)) w6 w5.heap.size F.length F.length from HROW6.out)
        clear HROW6
        go_loopw [97] (fun ii w8=>∃ i:Nat,i≤b.length∧ii=.int .i64 i∧QRow (fun f=>IsQ (tlr (fun j i=>crd L C q j (F.getD i 0)) (b.take i).reverse f)) w8 w5.heap.size F.length F.length∧Below w5.heap.size w5 w8) (fun ii _=>b.length - (intOf ii).toNat)
        case atStart=>exact⟨0,Nat.zero_le _,rfl,HQ0.out,HB6.out⟩
        case round=>
         obtain⟨i,hi,rfl,hrow8,hb8⟩:=hrel
         obtain⟨w8,rfl⟩:∃ w8:World,w8=wr:=⟨_,rfl⟩
         have HROW8:=Kh hrow8
         have HB8:=Kh hb8
         clear hrow8 hb8 HQ0 HB6
         by_cases hib:i<b.length
         ·have hibi:(i:Int)<(b.length:Int):=by omega
          obtain⟨y,hy⟩:∃ y,b[i]?=some y:=⟨_,List.getElem?_eq_getElem hib⟩
          have hyb:y∈b:=List.mem_of_getElem? hy
          rcases HTB.out with⟨h0,_⟩ |⟨gb,ob,cap',e,_,_,hgb,hte⟩
          ·rw[h0]at hib;simp at hib
          cases e
          obtain⟨e0,s,p,n,c,t,q',m',d',e1,e2,e3,e4,hqy⟩:=(hte i y hy).next hgb (I32.below HB8.out) (HB8.out.mono (Nat.le_of_lt hR5))
          have HQY:=Kh (show Qs w8 s p n c t q' m' d' y.2 from hqy)
          clear hte hqy
          go_wp2_with fail
          obtain⟨wb,hwb⟩:∃ wb,w8.alloc (.cells #[.int .i64 (y.1:Int),.bool s,.slice p n c,.bool t,.slice q' m' d'] 110)=wb:=⟨_,rfl⟩
          have hbb:Below w8.heap.size w8 wb:=hwb▸(Below.refl _ _).alloc (Nat.le_refl _) _
          have X:=hwb▸Blk.new w8 110 #[.int .i64 (y.1:Int),.bool s,.slice p n c,.bool t,.slice q' m' d']
          rw[hwb]
          obtain⟨gt,hgt⟩:∃ gt,w8.heap.size=gt:=⟨_,rfl⟩
          rw[hgt]at X ⊢
          obtain⟨hv1,hv2,hv3⟩:j+1≤y.1∧y.1<C∧y.2≠0:=by
           obtain⟨_,h1,h2,h3⟩:=val_mem HORD.out y hyb
           exact⟨h1,h2,h3⟩
          have hyi:(y.1:Int)<(C:Int):=by omega
          have HV:=Kh (And.intro hv1 hv2)
          have hb5b:=HB8.out.trans (hbb.mono HB8.out.size)
          obtain⟨gr,rr,hgr5,hgrne,hrq⟩:=HRT5.out.val y.1 hv1 hv2
          have HRQ:=Kh (fun w' (hb:Below w5.heap.size w5 w') i (hi:i<F.length)=>(hrq i hi).next hgr5 (I32.below hb) hb)
          have HGRL:=Kh hgr5
          have b0:=X.at_ 0 rfl
          have b1:=X.at_ 1 rfl
          have b2:=X.at_ 2 rfl
          have b3:=X.at_ 3 rfl
          have b4:=X.at_ 4 rfl
          have mm:=cell_next hb5b m4
          have rr':=cell_next hb5b rr
          have HS1:=Kh (show ∀ w',Below wb.heap.size wb w'→(w'.cell? ⟨gt,0,none⟩=some (.int .i64 (y.1:Int))∧w'.cell? ⟨gt,1,none⟩=some (.bool s)∧w'.cell? ⟨gt,2,none⟩=some (.slice p n c)∧w'.cell? ⟨gt,3,none⟩=some (.bool t)∧w'.cell? ⟨gt,4,none⟩=some (.slice q' m' d')∧w'.cell? ⟨M,4,none⟩=some (.slice (some ⟨GR,0,none⟩) C C)∧w'.cell? ⟨GR,y.1,none⟩=some (.slice (some ⟨gr,0,none⟩) F.length F.length))from fun w' hb=>⟨cell_next hb b0,cell_next hb b1,cell_next hb b2,cell_next hb b3,cell_next hb b4,cell_next hb mm,cell_next hb rr'⟩)
          have HNE:=Kh (show gt≠w5.heap.size∧M≠w5.heap.size∧GR≠w5.heap.size from⟨by have:=HROW8.out.sts.1;omega,Nat.ne_of_lt (World.block_lt_of_cell? w5 ⟨M,4,none⟩ m4),Nat.ne_of_lt hR5⟩)
          have HQB:=Kh (HQY.out.keep hbb)
          have HROWB:=Kh (HROW8.out.keep (fun _=>IsQ.solid _) hbb)
          have HB5B:=Kh hb5b
          have HYS:=Kh (HBS.out y hyb)
          have HXS:=Kh (show ∀ t1 i,j+1≤t1→t1<C→i<F.length→hq (crd L C q t1 (F.getD i 0))≤80 from fun t1 i h1 h2 h3=>by
           have hm:F.getD i 0∈frs L C:=by
            rw[HFE.out,List.getD_eq_getElem?_getD,List.getElem?_eq_getElem h3]
            exact List.getElem_mem h3
           obtain⟨f1,f2⟩:=frs_mem.1 hm
           exact Nat.le_trans (crd_size (by omega) HGL.out (by have:=HEJ.out;omega) hqle h2 f1 f2) (top_72 hC (Nat.le_refl _)))
          have HFS:=Kh (show ∀ f,f<F.length→hq (tlr (fun j i=>crd L C q j (F.getD i 0)) (b.take i).reverse f)≤100000 from fun f hf=>by
           have h1:=tlr_size (X:=(fun j i=>crd L C q j (F.getD i 0))) (K:=80) (f:=f) (b.take i).reverse (fun x hx=>HBS.out x (List.mem_of_mem_take (List.mem_reverse.1 hx))) (fun x hx=>by
            obtain⟨_,h1,h2,_⟩:=val_mem HORD.out x (List.mem_of_mem_take (List.mem_reverse.1 hx))
            exact HXS.out x.1 f h1 h2 hf)
           have h2:(b.take i).reverse.length≤72:=by rw[List.length_reverse,List.length_take];omega
           have h3:=Nat.mul_le_mul_right (2*80+1) h2
           omega)
          have HTK:=Kh (show ∀ f,tlr (fun j i=>crd L C q j (F.getD i 0)) (b.take (i+1)).reverse f=tlr (fun j i=>crd L C q j (F.getD i 0)) (b.take i).reverse f+-y.2*crd L C q y.1 (F.getD f 0)from fun f=>by
           rw[List.take_add_one,hy,Option.toList_some,List.reverse_append]
           rfl)
          have hS0:=HS1.out _ (Below.refl _ wb).drew
          clear hwb hbb X hb5b rr rr' hrq b0 b1 b2 b3 b4 mm hgr5 hgrne hgt e0 e1 e2 e3 e4 hv1 hv2 hv3
          go_upto_region 28 with(fail)
          go_region_held3 (fun w'=>w'.cell? ⟨gt,0,none⟩=some (.int .i64 (y.1:Int))∧w'.cell? ⟨gt,1,none⟩=some (.bool s)∧w'.cell? ⟨gt,2,none⟩=some (.slice p n c)∧w'.cell? ⟨gt,3,none⟩=some (.bool t)∧w'.cell? ⟨gt,4,none⟩=some (.slice q' m' d')∧w'.cell? ⟨M,4,none⟩=some (.slice (some ⟨GR,0,none⟩) C C)∧w'.cell? ⟨GR,y.1,none⟩=some (.slice (some ⟨gr,0,none⟩) F.length F.length))
           (first|with_reducible exact hS0|with_reducible exact HSA.out|exact HS1.out _ hbN |(exfalso;assumption))
           (first
            |(go_at_call 51;refine(c_qNegQ s p n c t q' m' d' y.2 _ (HQB.out.keep (by first|exact(Below.refl _ wb).drew|exact Below.refl _ wb)) (by have:=HYS.out;omega)).mono ?_;rintro e w9 ⟨⟨s3,p3,n3,c3,t3,q3,m3',d3,rfl,hz3⟩,hb9⟩;have hbN:Below wb.heap.size wb w9:=(by first|exact(Below.refl _ wb).drew.trans hb9|exact hb9))
            |(go_at_call 50;refine(c_addTo w5.heap.size F.length F.length _ (fun f=>tlr (fun j i=>crd L C q j (F.getD i 0)) (b.take i).reverse f) (fun f=>crd L C q y.1 (F.getD f 0)) s3 p3 n3 c3 t3 q3 m3' d3 (-y.2) w9 (HROWB.out.keep (fun _=>IsQ.solid _) hbN) (by
              have hb59:=HB5B.out.trans (hbN.mono HB5B.out.size)
              exact .inr ⟨gr,0,F.length,rfl,Nat.ne_of_lt HGRL.out,Nat.lt_of_lt_of_le HGRL.out hb59.size,fun f hf=>by rw[Nat.zero_add];exact HRQ.out w9 hb59 f hf⟩) hz3 (by rw[hq_neg];have:=HYS.out;omega) (fun f hf=>⟨by have:=HFS.out f hf;omega,by have:=HXS.out y.1 f HV.out.1 HV.out.2 hf;omega⟩) (by omega)).mono ?_;rintro e w10 ⟨⟨va,rfl⟩,hrow10,hg10,h3210⟩;have HR10:=Kh hrow10;have HG10:=Kh hg10;have HSA:=Kh (show w10.cell? ⟨gt,0,none⟩=some (.int .i64 (y.1:Int))∧w10.cell? ⟨gt,1,none⟩=some (.bool s)∧w10.cell? ⟨gt,2,none⟩=some (.slice p n c)∧w10.cell? ⟨gt,3,none⟩=some (.bool t)∧w10.cell? ⟨gt,4,none⟩=some (.slice q' m' d')∧w10.cell? ⟨M,4,none⟩=some (.slice (some ⟨GR,0,none⟩) C C)∧w10.cell? ⟨GR,y.1,none⟩=some (.slice (some ⟨gr,0,none⟩) F.length F.length)from⟨hg10.cell (HS1.out _ hbN).1 (fun e=>HNE.out.1 (by injection e)),hg10.cell (HS1.out _ hbN).2.1 (fun e=>HNE.out.1 (by injection e)),hg10.cell (HS1.out _ hbN).2.2.1 (fun e=>HNE.out.1 (by injection e)),hg10.cell (HS1.out _ hbN).2.2.2.1 (fun e=>HNE.out.1 (by injection e)),hg10.cell (HS1.out _ hbN).2.2.2.2.1 (fun e=>HNE.out.1 (by injection e)),hg10.cell (HS1.out _ hbN).2.2.2.2.2.1 (fun e=>HNE.out.2.1 (by injection e)),hg10.cell (HS1.out _ hbN).2.2.2.2.2.2 (fun e=>HNE.out.2.2 (by injection e))⟩);have HB10:=Kh (show Below w5.heap.size w5 w10 from below_but (HB5B.out.trans (hbN.mono HB5B.out.size)) hg10 (Nat.le_trans HB5B.out.size hbN.size) (Nat.le_refl _));clear hrow10 hg10 h3210))
          all_goals go_wp2
          all_goals go_roundw
          all_goals first
           | exact⟨i+1,by omega,by go_num,QRow.congr HR10.out (fun f hf=>by rw[HTK.out f]),HB10.out⟩
           |(simp[intOf];omega)
         ·obtain rfl:b.length=i:=by omega
          have HEND:=Kh (HFIN.out w8 HB8.out (QRow.congr HROW8.out (fun f hf=>by rw[List.take_length,tlr_map (crd L C q) (fun i=>F.getD i 0),Eli.newRow,if_neg HLJ.out.2,HLJ.out.1];rfl)))
          have hR8:=HRT5.out.keep (Nat.le_refl _) HB8.out
          have m8:=cell_next HB8.out m4
          obtain⟨uG,hG8⟩:=Option.isSome_iff_exists.1 (hR8.has j hjC)
          have hf8:=hR8.free j hjC
          have HQ:=Kh (show(C:Int) - 1 - ((q+1:Nat):Int)=(j:Int) - 1 by have:=HEJ.out;omega)
          have HE1:=Kh (show C - (q+1)=j by have:=HEJ.out;omega)
          have HFE1:=Kh (show(frs L (j+1)).length=(frs L j).length by rw[frs_succ,if_neg HLJ.out.2])
          clear hR8
          go_wp2
          go_roundw
          case rel=>exact⟨q+1,by omega,by rw[HE1.out,HFE1.out],by rw[HQ.out],HEND.out.1,HEND.out.2.1,HEND.out.2.2⟩
          case measure=>simp[intOf]
    ·obtain rfl:C=q:=by omega
     have e11:(C:Int) - 1 - (C:Int)=-1:=by omega
     rw[e11]
     have hneg:¬ ((0:Int)≤-1):=by omega
     rw[Nat.sub_self]at HRT5
     have HSZ5:=Kh (show wp.heap.size≤w5.heap.size from HGR5.out.size)
     have hc:∀ i v,i<5→(#[.int .i64 N,.int .i64 k,.int .i64 D,.slice pf F.length cf,.slice (some ⟨GR,0,none⟩) C C]:Array Value)[i]?=some v→w5.cell? ⟨M,i,none⟩=some v:=fun i v _ e=>HGR5.out.cell (HMB1.out.at_ i e) (fun e=>by injection e with e;exact hMG e)
     have HMOD:=Kh (show ModAt w5 M w5.heap.size N k D F C (crd L C C)from
      ⟨Nat.lt_of_lt_of_le HMB1.out.lt HSZ5.out,hc 0 _ (by omega) rfl,hc 1 _ (by omega) rfl,hc 2 _ (by omega) rfl,⟨_,hc 3 _ (by omega) rfl,(HNL.out.but HGR5.out HNE.out).up HSZ5.out⟩,GR,hc 4 _ (by omega) rfl,HRT5.out.stk.1,fun j hj=>by
       obtain⟨g,e,hg,_,hq⟩:=HRT5.out.val j (Nat.zero_le _) hj
       refine⟨g,e,hg,fun i f hf=>?_⟩
       have hi:i<F.length:=by
        rcases Nat.lt_or_ge i F.length with h|h
        ·exact h
        ·rw[List.getElem?_eq_none h]at hf;cases hf
       have h:=hq i hi
       have e:F.getD i 0=f:=by rw[List.getD_eq_getElem?_getD,hf];rfl
       rw[e]at h
       exact h⟩)
     have HBE:=Kh (show Below w.heap.size w w5 from below_but (HBW.out.trans (HBR.out.mono (by have:=HWM.out;have:=HGM.out;omega))) HGR5.out (Nat.le_trans HWM.out HBP.out) HWM.out)
     clear hc
     go_wp2
     (first|go_ret2|go_ret)
     exact⟨⟨M,rfl,by have:=HWM.out;have:=HGM.out;omega,by rw[HFE.out];exact HMOD.out⟩,HBE.out⟩
theorem c_New_bad (N k D er:Int) (w:World) (hrel:∀ w1,Below w.heap.size w w1→Calls Tryz.prog 47 #[.agg #[.int .i64 N,.int .i64 k,.int .i64 D]] w1 fun e w'=>(∃ a b,e=.returned (.tuple #[.agg #[.int .i64 a,.int .i64 b,.slice none 0 0],.int .i64 er]))∧Below w1.heap.size w1 w') (he:er≠0):
  Calls Tryz.prog 11 #[.agg #[.int .i64 N,.int .i64 k,.int .i64 D]] w fun e w'=>e=.returned (.tuple #[.pointer none,.int .i64 er])∧Below w.heap.size w w':=by
 have HREL:=Kh hrel
 clear hrel
 go_enter Tryz.func11,Tryz.ntmps11
 go_wp2_with fail
 obtain⟨w0,hw0,X0,hb0⟩:=bx1 w #[.int .i64 N,.int .i64 k,.int .i64 D] 23
 rw[hw0]
 clear hw0 X0
 refine(HREL.out w0 hb0).mono ?_
 rintro e w1 ⟨⟨a,b,rfl⟩,hb1⟩
 have HBA:=Kh (hb0.trans (hb1.mono hb0.size))
 have hne:(er != 0)=true:=by simpa using he
 clear hb0 hb1 HREL
 go_wp2
 (first|go_ret2|go_ret)
 exact⟨rfl,HBA.out.alloc HBA.out.size _⟩
end Go.Proofs.YtenlbhlllgppmaaGreatDoor
