/- Contract of manin.times. -/
import Derived.Test.YtenlbhlllgppmaaGreatDoorK13
import Derived.Test.YtenlbhlllgppmaaGreatDoorK19
import Derived.Test.YtenlbhlllgppmaaGreatDoorK21
import Derived.Test.YtenlbhlllgppmaaGreatDoorK26
import Derived.Deep.Upon
set_option linter.unusedSimpArgs false
set_option maxRecDepth 100000
set_option maxHeartbeats 8000000
namespace Go.Proofs.YtenlbhlllgppmaaGreatDoor
open Go.RowKit
theorem intZInfo:(Tryz.prog.info? 84).map (fun i=>(i.zero,i.size,i.bytes))=some (some (.agg #[.bool false,.slice none 0 0]),2,32):=by kernel_rfl
theorem makeZ (n:Nat) (h:n≤1000000) (w:World):
  (Instr.makeSlice 97 (.int .i64 (n:Int)) (.int .i64 (n:Int))).run Tryz.prog w=.ok (.slice (some ⟨w.heap.size,0,none⟩) n n) (w.alloc (.cells (madeCells #[.bool false,.slice none 0 0] (n*2)) 84)):=by
 obtain⟨i,hi,hz0,hz1,hz2⟩:=info_parts intZInfo
 have hr:=run_make (P:=Tryz.prog) w 97 84 i _ Tryz.underlying97 hi hz0 .i64 .i64 n n (by omega) (Int.le_refl _) (by rw[hz2];omega) (by omega)
 rw[Int.toNat_natCast,hz1]at hr
 exact hr
theorem madeZ {n i:Nat} {v:Value} (h:(madeCells #[.bool false,.slice none 0 0] n)[i]?=some v):NotInt v:=by
 unfold madeCells at h
 simp only[Array.getElem?_map,Array.getElem?_range]at h
 split at h
 ·simp only[Option.map_some]at h
  injection h with h
  rw[← h]
  have h3:i % 2=0∨i % 2=1:=by omega
  show NotInt ((#[.bool false,.slice none 0 0]:Array Value)[i % 2]!)
  rcases h3 with h3|h3 <;> rw[h3] <;> first|exact NotInt.bool _|exact NotInt.slice _ _ _
 ·cases h
theorem ZRow.made (f:Nat→Int) (w:World) (n:Nat):ZRow f (w.alloc (.cells (madeCells #[.bool false,.slice none 0 0] (n*2)) 84)) w.heap.size n 0:=by
 have hb:=Blk.new w 84 (madeCells #[.bool false,.slice none 0 0] (n*2))
 refine⟨Sts.of hb ?_,fun i _=>hb.free_ i,fun i hi=>?_,fun j hj=>absurd hj (Nat.not_lt_zero _)⟩
 ·intro v hv
  obtain⟨i,hi⟩:=Array.getElem?_of_mem hv
  exact madeZ hi
 ·rw[hb.cell_ i,Array.getElem?_eq_getElem (by rw[size_madeCells];exact hi)];rfl
def VarZ (w:World) (R:Nat) (z:Int):Prop:=∃ s p n c,Blk w R 84 #[.bool s,.slice p n c]∧Zs w s p n c z
theorem below_put2 {g:Nat} {w w':World} (h:Below g w w') {R i j:Nat} (hR:g≤R) {v0 v1:Value}:Below g w ((w'.setCell ⟨R,i,none⟩ v0).setCell ⟨R,j,none⟩ v1):=
 (h.setCell (p:=⟨R,i,none⟩) hR v0).setCell (p:=⟨R,j,none⟩) hR v1
theorem ZRow.var {f:Nat→Int} {w:World} {g N k R:Nat} {s:Bool} {p:Option Addr} {n c:Nat} {s':Bool} {p':Option Addr} {n' c':Nat} (h:ZRow f w g N k) (hR:Blk w R 84 #[.bool s',.slice p' n' c']) (hne:g≠R):ZRow f ((w.setCell ⟨R,0,none⟩ (.bool s)).setCell ⟨R,1,none⟩ (.slice p n c)) g N k:=by
 have hg:=but_put2 w R 0 1 (.bool s) (.slice p n c)
 have hb:((w.setCell ⟨R,0,none⟩ (.bool s)).setCell ⟨R,1,none⟩ (.slice p n c)).heap[g]?=w.heap[g]?:=hg.block g h.sts.1 (fun e=>by injection e with e;exact hne e)
 have h32:=I32.put2 (Sts.box hR) 0 1 (.bool s) (.slice p n c) (NotInt.bool _)
 refine⟨⟨Nat.lt_of_lt_of_le h.sts.1 hg.size,fun i v hv=>h.sts.2 i v ((World.cell?_of_block (a:=⟨g,i,none⟩) hb).symm.trans hv)⟩,fun i hi=>(World.frozen?_of_block (a:=⟨g,i,none⟩) hb).trans (h.free i hi),fun i hi=>by rw[World.cell?_of_block (a:=⟨g,i,none⟩) hb];exact h.has i hi,fun j hj=>?_⟩
 obtain⟨s,p,n,c,e0,e1,e2⟩:=h.val j hj
 exact⟨s,p,n,c,(World.cell?_of_block (a:=⟨g,_,none⟩) hb).trans e0,(World.cell?_of_block (a:=⟨g,_,none⟩) hb).trans e1,e2.i32 h32⟩
theorem c_timesM (v:Value) (m:Nat) (f:Nat→Int) (s:Bool) (p:Option Addr) (n c:Nat) (a:Int) (t:Bool) (q:Option Addr) (m' d:Nat) (b:Int) (w:World) (h:ZL f w v m) (ha:Zs w s p n c a) (hb:Zs w t q m' d b) (h0:0<m) (hm:m≤1000) (hn:n≤10) (hn':m'≤10) (hf:∀ j,nd (f j).natAbs≤1000) (hz:∀ j,m≤j→f j=0):
  Calls Tryz.prog 145 #[v,.agg #[.bool s,.slice p n c],.agg #[.bool t,.slice q m' d]] w fun e w'=>(∃ g,e=.returned (.slice (some ⟨g,0,none⟩) ((m+1:Nat)) ((m+1:Nat)))∧w.heap.size≤g∧ZRow (lin a b f) w' g (m+1) (m+1))∧Below w.heap.size w w':=by
 obtain⟨g1,o1,l1,rfl,hg1,r1⟩:=h.resolve_left (fun h=>by omega)
 have HR0:=Kh r1
 have HF:=Kh hf
 have HZ0:=Kh hz
 have HA:=Kh ha
 have HB:=Kh hb
 obtain⟨N,hN⟩:∃ N,m+1=N:=⟨_,rfl⟩
 have hNi:(m:Int)+1=(N:Nat):=by omega
 have hmk:=makeZ N (by omega)
 rw[hN]
 clear h r1 hf ha hb hz
 go_enter Tryz.func145,Tryz.ntmps145
 go_wp2_with fail
 obtain⟨w0,hw0⟩:∃ w0,(w.alloc (.cells #[.bool s,.slice p n c] 84)).alloc (.cells #[.bool t,.slice q m' d] 84)=w0:=⟨_,rfl⟩
 obtain⟨X0,X1,hb0⟩:=box2 w #[.bool s,.slice p n c] 84 #[.bool t,.slice q m' d] 84
 rw[hw0]at X0 X1 hb0
 have hs0:w0.heap.size=w.heap.size+1+1:=by rw[← hw0];simp
 have hrm:=ZRow.made (lin a b f) w0 N
 obtain⟨wn,hwn⟩:∃ wn,w0.alloc (.cells (madeCells #[.bool false,.slice none 0 0] (N*2)) 84)=wn:=⟨_,rfl⟩
 have hbn:Below w0.heap.size w0 wn:=hwn▸(Below.refl _ _).alloc (Nat.le_refl _) _
 rw[hwn]at hrm
 rw[hw0,hwn]
 obtain⟨gx,hgx⟩:∃ gx,w.heap.size=gx:=⟨_,rfl⟩
 obtain⟨gy,hgy⟩:∃ gy,gx+1=gy:=⟨_,rfl⟩
 obtain⟨g,hg⟩:∃ g,gy+1=g:=⟨_,rfl⟩
 rw[hgx,hgy,hg]at hs0
 rw[hgx]at X0 X1
 rw[hgy]at X1
 rw[hs0]at hrm hbn
 rw[hgx,hgy,hg]
 have HX0:=Kh X0
 have HX1:=Kh X1
 have HBN:=Kh hbn
 have HRM:=Kh hrm
 have hgl:w.heap.size≤g:=by omega
 have hxl:gx<g:=by omega
 have hyl:gy<g:=by omega
 have HW:=Kh hb0
 have HG1:=Kh (show g1<g by omega)
 have HR:=Kh (fun j (hj:j<m)=>ZE.keep (HR0.out j hj) hb0)
 have HAX:=Kh (HA.out.keep hb0)
 have HBX:=Kh (HB.out.keep hb0)
 have HS0:=Kh hs0
 clear X0 X1 hb0 hw0 hwn hrm hbn hg1 hgx hgy hg hs0 hmk HR0 HA HB
 go_loopw [16] (fun i wr=>∃ k:Nat,k≤N∧i=.int .i64 k∧ZRow (lin a b f) wr g N k∧Below g w0 wr) (fun i _=>N - (intOf i).toNat)
 case atStart=>exact⟨0,Nat.zero_le _,rfl,HRM.out,HBN.out⟩
 case round=>
  obtain⟨k,hk,rfl,hrow,hbr⟩:=hrel
  obtain⟨w1,rfl⟩:∃ w1:World,w1=wr:=⟨_,rfl⟩
  have HROW:=Kh hrow
  have HBR:=Kh hbr
  clear hrow hbr HBN HRM
  by_cases hlt:k<N
  ·have hkN:(k:Int)<(N:Int):=by omega
   go_wp2_with fail
   refine(c_Of 0 w1 (by omega) (by omega)).mono ?_
   rintro e w2 ⟨⟨s3,p3,n3,c3,rfl,hz3⟩,hb3⟩
   have hsz2:g<w2.heap.size:=Nat.lt_of_lt_of_le HROW.out.sts.1 hb3.size
   have HROW2:=Kh (ZRow.keep HROW.out hb3)
   have HBR2:=Kh (HBR.out.trans (hb3.mono (Nat.le_of_lt HROW.out.sts.1)))
   have HZ3:=Kh hz3
   clear hz3 hb3 HROW HBR
   go_upto_if 21 with(fail)
   obtain⟨w3,hw3⟩:∃ w3,w2.alloc (.cells #[.bool s3,.slice p3 n3 c3] 84)=w3:=⟨_,rfl⟩
   have hb3:Below w2.heap.size w2 w3:=hw3▸(Below.refl _ _).alloc (Nat.le_refl _) _
   have XR:=hw3▸Blk.new w2 84 #[.bool s3,.slice p3 n3 c3]
   rw[hw3]
   obtain⟨R,hR⟩:∃ R,w2.heap.size=R:=⟨_,rfl⟩
   rw[hR]at XR ⊢
   have hRg:g<R:=by omega
   have HV3:=Kh (show VarZ w3 R 0 from⟨s3,p3,n3,c3,XR,HZ3.out.keep hb3⟩)
   have HROW3:=Kh (ZRow.keep HROW2.out hb3)
   have HBR3:=Kh (HBR2.out.trans (hb3.mono (Nat.le_of_lt hsz2)))
   clear hw3 hb3 XR hR hsz2 HROW2 HBR2 HZ3
   obtain⟨u1,hu1⟩:∃ u1,(if 0<k then a*f (k - 1)else 0)=u1:=⟨_,rfl⟩
   have HU1:=Kh hu1
   clear hu1
   go_cut []from 20 to 28 (fun wd=>VarZ wd R u1∧ZRow (lin a b f) wd g N k∧Below g w0 wd)
   case first=>
    by_cases hk0:0<k
    ·obtain⟨k1,hk1⟩:∃ k1,k=k1+1:=⟨k - 1,by omega⟩
     have HU:=Kh (show a*f k1=u1 by rw[← HU1.out,if_pos hk0,hk1,Nat.add_sub_cancel])
     obtain⟨we,rfl⟩:∃ we:World,we=w3:=⟨_,rfl⟩
     have hbm:Below w0.heap.size w0 we:=HS0.out▸HBR3.out
     obtain⟨s',p',i',c',a0,a1,hx⟩:=(HR.out k1 (by omega)).keep hbm
     have HP:=Kh (show Zs we s' p' i' c' (f k1)from hx)
     have x0:=(HX0.out.below_ HBR3.out hxl).at_ 0 rfl
     have x1:=(HX0.out.below_ HBR3.out hxl).at_ 1 rfl
     have HX:=Kh (HAX.out.keep hbm)
     have HI:=Kh (show i'≤1000 by rw[← hx.2.1];exact HF.out k1)
     have HM1:=Kh (fun W (hb:Below we.heap.size we W)=>c_Mul s p n c a s' p' i' c' (f k1) W (HX.out.keep hb).raw (HP.out.keep hb).raw (by omega) (by have:=HI.out;omega))
     rw[HU.out]at HM1
     obtain⟨s5,p5,n5,c5,XR,_⟩:=HV3.out
     have HXR:=Kh XR
     have hkk1:(k:Int) - 1=(k1:Nat):=by omega
     have hk1n:k1<m:=by omega
     have hk1i:(k1:Int)<(m:Int):=by omega
     have hkw:IntKind.i64.wrap (k1:Int)=(k1:Nat):=IntWalk.i64_in _ (by omega)
     have hk00:(0:Int)≤(k1:Int):=by omega
     have hg1:=HG1.out
     have hk0i:(0:Int)<(k:Int):=by omega
     clear hx hbm HX HP hk1 HU HU1
     go_upto_region 7 with(fail)
     refine rgB (fun W=>W.cell? ⟨gx,0,none⟩=some (.bool s)∧W.cell? ⟨gx,1,none⟩=some (.slice p n c)∧W.cell? ⟨g1,o1+k1*2,none⟩=some (.bool s')∧W.cell? ⟨g1,o1+k1*2+1,none⟩=some (.slice p' i' c')∧W.cell? ⟨R,0,none⟩=some (.bool s5)∧W.frozen? ⟨R,0,none⟩=false∧W.cell? ⟨R,1,none⟩=some (.slice p5 n5 c5)∧W.frozen? ⟨R,1,none⟩=false) (fun W hb=>⟨cnx hb x0,cnx hb x1,cnx hb a0,cnx hb a1,cnx hb (XR.at_ 0 rfl),frozen_keep hb (by rw[(XR.at_ 0 rfl)];rfl) (XR.free_ 0),cnx hb (XR.at_ 1 rfl),frozen_keep hb (by rw[(XR.at_ 1 rfl)];rfl) (XR.free_ 1)⟩) (fun HSE hHeld0=>?_)
     clear x0 x1 a0 a1 XR
     refine tkE 0 ?_;refine tkE 1 ?_;refine tkE 2 ?_;refine tkE 3 ?_;refine tkE 4 ?_;refine tkE 5 ?_
     refine stE 6 rfl (fun K hK=>?_)
     focus(go_simp;refine(HM1.out _ (Below.refl _ we).drew).mono ?_;rintro e w4 ⟨⟨s4,p4,n4,c4,rfl,hz4⟩,hb4⟩;have HBE4:=Kh ((Below.refl _ we).drew.trans hb4:Below we.heap.size we w4);have HZ4:=Kh hz4;clear hz4 hb4;(first|with_reducible refine hK.out _ _ ?_ (fun hHeld1=>?_) |(go_wp2_with fail;with_reducible refine hK.out _ _ ?_ (fun hHeld1=>?_))))
     focus((try dsimp only);exact HSE.out _ HBE4.out)
     focus(clear hK K;(try simp only[Act.put,lsa,lsz,lss]))
     refine laE 7 rfl (fun K hK=>?_)
     go_simp
     refine hK.out _ _ ?_
     clear hK K
     (try simp only[Act.put,lsa,lsz,lss])
     all_goals go_wp2
     all_goals go_meet
     all_goals have hb9:=HBE4.out
     all_goals obtain⟨hv1,hv2⟩:=one_put (bk HXR hb9) HZ4.out
     all_goals exact⟨⟨_,_,_,_,hv1,hv2⟩,ZRow.var (ZRow.keep HROW3.out hb9) (bk HXR hb9) (Nat.ne_of_lt hRg),below_put2 (HBR3.out.trans (hb9.mono (Nat.le_of_lt HROW3.out.sts.1))) (Nat.le_of_lt hRg)⟩
    ·have HU:=Kh (show 0=u1 by rw[← HU1.out,if_neg hk0])
     obtain rfl:k=0:=by omega
     go_wp2
     go_meet
     exact⟨HU.out▸HV3.out,HROW3.out,HBR3.out⟩
   case rest=>
    obtain⟨hv,hr,hb⟩:=hcut
    obtain⟨we,rfl⟩:∃ we:World,we=wc:=⟨_,rfl⟩
    have HV4:=Kh hv
    have HROW4:=Kh hr
    have HBR4:=Kh hb
    clear hv hr hb HV3 HROW3 HBR3
    go_upto_if 32 with(fail)
    go_cut []from 29 to 40 (fun wd=>VarZ wd R (lin a b f k)∧ZRow (lin a b f) wd g N k∧Below g w0 wd)
    case first=>
     by_cases hkm:k<m
     ·have HU:=Kh (show u1+b*f k=lin a b f k by unfold lin;rw[HU1.out])
      have hbm:Below w0.heap.size w0 we:=HS0.out▸HBR4.out
      obtain⟨s',p',i',c',a0,a1,hx⟩:=(HR.out k hkm).keep hbm
      have HP:=Kh (show Zs we s' p' i' c' (f k)from hx)
      have x0:=(HX1.out.below_ HBR4.out hyl).at_ 0 rfl
      have x1:=(HX1.out.below_ HBR4.out hyl).at_ 1 rfl
      have HX:=Kh (HBX.out.keep hbm)
      have HI:=Kh (show i'≤1000 by rw[← hx.2.1];exact HF.out k)
      have HM1:=Kh (fun W (hb:Below we.heap.size we W)=>c_Mul t q m' d b s' p' i' c' (f k) W (HX.out.keep hb).raw (HP.out.keep hb).raw (by omega) (by have:=HI.out;omega))
      obtain⟨s5,p5,n5,c5,XR,hv5⟩:=HV4.out
      have HXR:=Kh XR
      have HV5:=Kh hv5
      have HSU:=Kh (show n5≤2000 by
       rw[← hv5.2.1,← HU1.out]
       split
       ·rw[Int.natAbs_mul]
        have h1:=nd_mul a.natAbs (f (k - 1)).natAbs
        have h2:=HF.out (k - 1)
        have h3:nd a.natAbs≤10:=by rw[HAX.out.2.1];exact hn
        omega
       ·simp[nd_zero])
      have HSP:=Kh (show nd (b*f k).natAbs≤2000 by
       rw[Int.natAbs_mul]
       have h1:=nd_mul b.natAbs (f k).natAbs
       have h2:=HF.out k
       have h3:nd b.natAbs≤10:=by rw[HBX.out.2.1];exact hn'
       omega)
      have hkmi:(k:Int)<(m:Int):=by omega
      have hg1:=HG1.out
      clear hx hbm HX HP HU1 hv5
      go_upto_region 9 with(fail)
      refine rgB (fun W=>W.cell? ⟨gy,0,none⟩=some (.bool t)∧W.cell? ⟨gy,1,none⟩=some (.slice q m' d)∧W.cell? ⟨g1,o1+k*2,none⟩=some (.bool s')∧W.cell? ⟨g1,o1+k*2+1,none⟩=some (.slice p' i' c')∧W.cell? ⟨R,0,none⟩=some (.bool s5)∧W.frozen? ⟨R,0,none⟩=false∧W.cell? ⟨R,1,none⟩=some (.slice p5 n5 c5)∧W.frozen? ⟨R,1,none⟩=false) (fun W hb=>⟨cnx hb x0,cnx hb x1,cnx hb a0,cnx hb a1,cnx hb (XR.at_ 0 rfl),frozen_keep hb (by rw[(XR.at_ 0 rfl)];rfl) (XR.free_ 0),cnx hb (XR.at_ 1 rfl),frozen_keep hb (by rw[(XR.at_ 1 rfl)];rfl) (XR.free_ 1)⟩) (fun HSE hHeld0=>?_)
      clear x0 x1 a0 a1 XR
      refine tkE 0 ?_;refine tkE 1 ?_;refine tkE 2 ?_;refine tkE 3 ?_;refine tkE 4 ?_;refine tkE 5 ?_
      refine stE 6 rfl (fun K hK=>?_)
      focus(go_simp;refine(HM1.out _ (Below.refl _ we).drew).mono ?_;rintro e w4 ⟨⟨s4,p4,n4,c4,rfl,hz4⟩,hb4⟩;have HBE4:=Kh ((Below.refl _ we).drew.trans hb4:Below we.heap.size we w4);have HZ4:=Kh hz4;clear hz4 hb4;(first|with_reducible refine hK.out _ _ ?_ (fun hHeld1=>?_) |(go_wp2_with fail;with_reducible refine hK.out _ _ ?_ (fun hHeld1=>?_))))
      focus((try dsimp only);exact HSE.out _ HBE4.out)
      focus(clear hK K;(try simp only[Act.put,lsa,lsz,lss]))
      refine stE 7 rfl (fun K hK=>?_)
      focus(go_simp;refine(c_Add s5 p5 n5 c5 u1 s4 p4 n4 c4 (b*f k) _ (HV5.out.keep HBE4.out).raw HZ4.out.raw (by have:=HSU.out;omega) (by rw[← HZ4.out.2.1];have:=HSP.out;omega)).mono ?_;rintro e w6 ⟨⟨s6,p6,n6,c6,rfl,hz6⟩,hb6⟩;have HBE6:=bt HBE4 hb6;have HZ6:=Kh hz6;clear hz6 hb6;(first|with_reducible refine hK.out _ _ ?_ (fun hHeld2=>?_) |(go_wp2_with fail;with_reducible refine hK.out _ _ ?_ (fun hHeld2=>?_))))
      focus((try dsimp only);exact HSE.out _ HBE6.out)
      focus(clear hK K;(try simp only[Act.put,lsa,lsz,lss]))
      refine laE 8 rfl (fun K hK=>?_)
      go_simp
      refine hK.out _ _ ?_
      clear hK K
      (try simp only[Act.put,lsa,lsz,lss])
      all_goals go_wp2
      all_goals go_meet
      all_goals have hb9:=HBE6.out
      all_goals obtain⟨hv1,hv2⟩:=one_put (bk HXR hb9) HZ6.out
      all_goals exact⟨⟨_,_,_,_,hv1,HU.out▸hv2⟩,ZRow.var (ZRow.keep HROW4.out hb9) (bk HXR hb9) (Nat.ne_of_lt hRg),below_put2 (HBR4.out.trans (hb9.mono (Nat.le_of_lt HROW4.out.sts.1))) (Nat.le_of_lt hRg)⟩
     ·have HU:=Kh (show u1=lin a b f k by unfold lin;rw[HU1.out,HZ0.out k (by omega),Int.mul_zero,Int.add_zero])
      go_wp2
      go_meet
      exact⟨HU.out▸HV4.out,HROW4.out,HBR4.out⟩
    case rest=>
     obtain⟨⟨s5,p5,n5,c5,XR,hv5⟩,hr,hb⟩:=hcut
     obtain⟨w7,rfl⟩:∃ w7:World,w7=wc:=⟨_,rfl⟩
     have y0:=XR.at_ 0 rfl
     have y1:=XR.at_ 1 rfl
     have HQA:=Kh (ZRow.set (k':=k+1) hr k hlt (lin a b f) (fun i' h1 h2=>⟨by omega,rfl⟩) hv5)
     have HB7:=Kh hb
     obtain⟨u0,hu0⟩:=Option.isSome_iff_exists.1 (hr.has (k*2) (by omega))
     obtain⟨u2,hu2⟩:=Option.isSome_iff_exists.1 (hr.has (k*2+1) (by omega))
     have f0:=hr.free (k*2) (by omega)
     have f1:=hr.free (k*2+1) (by omega)
     clear XR hv5 hr hb HV4 HROW4 HBR4
     go_wp2
     go_roundw
     case rel=>exact⟨k+1,by omega,by go_num,HQA.out,below_put2 HB7.out (Nat.le_refl _)⟩
     case measure=>simp[intOf];omega
  ·obtain rfl:N=k:=by omega
   have hbr:=HBR.out
   clear hbr
   go_wp2
   go_ret
   exact⟨⟨g,rfl,hgl,HROW.out⟩,HW.out.trans (HBR.out.mono hgl)⟩
theorem wpl_appN {P:Program} {W:World} {ops:Array Oper} {rest:List Oper} {o:Oper} {a:Act} {Q:Exit→Act→World→Prop} (K:Value→Prop) (hgd:o.guard=none) (s x:Operand) (t E:TypeId)
  (ho:o.op=.call { callee:=.builtin .append,args:=#[s,x],argTypes:=#[t,t] }) {z:Value} {sz bytes:Nat} (hU:P.underlying t=some (.slice E))
  (hinfo:(P.info? E).map (fun i=>(i.zero,i.size,i.bytes))=some (some z,sz,bytes)) (hzs:z.cells.size=sz) (hsz:0<sz) (B n m g c:Nat) (v:Value) (xs news:List Value)
  (hs:a.eval s=v) (hown:OwnK K W B E sz v n xs) (hx:a.eval x=.slice (some ⟨g,0,none⟩) m c) (hn:news.length=m*sz) (hcell:∀ (j:Nat) (u:Value),news[j]?=some u→W.cell? ⟨g,j,none⟩=some u) (h1:∀ u∈news,u.oneCell'=true)
  (hb:(n+m)*bytes≤140737488355328) (hm:n+m≤9223372036854775807) (hm0:0<m) (hB:B≤W.heap.size) (hKn:∀ u∈news,K u) (hKz:∀ u∈z.cells.toList,K u)
  (h:∀ v' w',OwnK K w' B E sz v' (n+m) (xs++news)→W.grownBy w' v.ownBlock→(v'.ownBlock=v.ownBlock∨v'.ownBlock=some W.heap.size)→wpList P ops Q rest (a.put o.dst v') w'):
  wpList P ops Q (o :: rest) a W:=by
 obtain⟨i0,hi,hz0,hz1,hz2⟩:=info_parts hinfo
 have hcell2:∀ (j:Nat) (u:Value),news[j]?=some u→W.cell? ((⟨g,0,none⟩:Addr).add j)=some u:=by
  intro j u hu
  have e:(⟨g,0,none⟩:Addr).add j=⟨g,j,none⟩:=by
   unfold Addr.add;split
   ·rename_i h0;rw[h0]
   ·simp
  rw[e]
  exact hcell j u hu
 obtain⟨v',w',hr,g1,g2,_,g3⟩:=run_append_own_at (P:=P) W B t o.type E i0 z sz bytes hU hi hz0 hz1 hz2 hzs hsz v n xs hown.1 ⟨g,0,none⟩ m c news hn hcell2 h1 hm hb hB
 have g4:=append_stk K W B t o.type E i0 z sz bytes hU hi hz0 hz1 hz2 hzs hsz v n xs hown.1 ⟨g,0,none⟩ m c news hn hcell2 h1 hm hb hm0 hown.2 hKn hKz hr
 refine wpList_plain hgd fun K' hK'=>?_
 unfold Oper.wp execOp
 simp only[ho,resolve,invoke,builtin,Sem.run_bind,Sem.run_pure,Result.andThen_ok,List.map_toArray,List.map_cons,List.map_nil,hs,hx,hr]
 exact hK' _ _ (h v' w' ⟨g1,g4⟩ g2 g3)
def rowCells (w:World) (g n:Nat):List Value:=(List.range n).map fun i=>cellOf w ⟨g,i,none⟩
theorem rowCells_length (w:World) (g n:Nat):(rowCells w g n).length=n:=by unfold rowCells;rw[List.length_map,List.length_range]
theorem rowCells_get {w:World} {g n j:Nat} (hj:j<n):(rowCells w g n)[j]?=some (cellOf w ⟨g,j,none⟩):=by
 unfold rowCells
 rw[List.getElem?_map,List.getElem?_range hj];rfl
theorem rowCells_lt {w:World} {g n j:Nat} {u:Value} (h:(rowCells w g n)[j]?=some u):j<n:=by
 rcases Nat.lt_or_ge j n with h1|h1
 ·exact h1
 ·rw[List.getElem?_eq_none (by rw[rowCells_length];exact h1)]at h;cases h
theorem ZRow.cellOf {f:Nat→Int} {w:World} {g N:Nat} (h:ZRow f w g N N) {i:Nat} (hi:i<N*2):w.cell? ⟨g,i,none⟩=some (cellOf w ⟨g,i,none⟩):=by
 obtain⟨u,hu⟩:=Option.isSome_iff_exists.1 (h.has i hi)
 rw[hu,cellOf_eq hu]
theorem ZRow.shape {f:Nat→Int} {w:World} {g N:Nat} (h:ZRow f w g N N) {i:Nat} (hi:i<N*2):(∃ s,Go.Proofs.YtenlbhlllgppmaaGreatDoor.cellOf w ⟨g,i,none⟩=.bool s)∨∃ p n c,Go.Proofs.YtenlbhlllgppmaaGreatDoor.cellOf w ⟨g,i,none⟩=.slice p n c:=by
 obtain⟨s,p,n,c,e0,e1,_⟩:=h.val (i / 2) (by omega)
 rcases Nat.mod_two_eq_zero_or_one i with h2|h2
 ·rw[show i / 2*2=i by omega]at e0
  exact .inl ⟨s,cellOf_eq e0⟩
 ·rw[show i / 2*2+1=i by omega]at e1
  exact .inr ⟨p,n,c,cellOf_eq e1⟩
theorem rowCells_all {f:Nat→Int} {w:World} {g N:Nat} (h:ZRow f w g N N) {u:Value} (hu:u∈rowCells w g (N*2)):(∃ s,u=.bool s)∨∃ p n c,u=.slice p n c:=by
 obtain⟨j,hj⟩:=List.getElem?_of_mem hu
 have hl:=rowCells_lt hj
 rw[rowCells_get hl]at hj
 injection hj with hj
 subst hj
 exact h.shape hl
theorem rowCells_one {f:Nat→Int} {w:World} {g N:Nat} (h:ZRow f w g N N):∀ u∈rowCells w g (N*2),u.oneCell'=true:=by
 intro u hu
 rcases rowCells_all h hu with⟨s,rfl⟩ |⟨p,n,c,rfl⟩ <;> rfl
theorem rowCells_ni {f:Nat→Int} {w:World} {g N:Nat} (h:ZRow f w g N N):∀ u∈rowCells w g (N*2),NotInt u:=by
 intro u hu
 rcases rowCells_all h hu with⟨s,rfl⟩ |⟨p,n,c,rfl⟩
 ·exact NotInt.bool _
 ·exact NotInt.slice _ _ _
theorem rowCells_cell {f:Nat→Int} {w:World} {g N:Nat} (h:ZRow f w g N N):∀ (j:Nat) (u:Value),(rowCells w g (N*2))[j]?=some u→w.cell? ⟨g,j,none⟩=some u:=by
 intro j u hj
 have hl:=rowCells_lt hj
 rw[rowCells_get hl]at hj
 rw[h.cellOf hl,hj]
theorem OwnZ.more {f r:Nat→Int} {W w':World} {B n m g:Nat} {v v':Value} {xs:List Value} (h1:OwnK NotInt W B 84 2 v n xs) (h2:∀ j,j<n→ZX (f j) W xs (j*2))
  (hr:ZRow r W g m m) (h3:OwnK NotInt w' B 84 2 v' (n+m) (xs++rowCells W g (m*2))) (hg:W.grownBy w' v.ownBlock) (f':Nat→Int) (e1:∀ j,j<n→f' j=f j) (e2:∀ j,j<m→f' (n+j)=r j):OwnZ f' w' B v' (n+m):=by
 have h32:=I32.grown (K:=NotInt) (fun x=>not_int32 x) h1.2 hg
 refine⟨_,h3,fun j hj=>?_⟩
 by_cases hjn:j<n
 ·rw[e1 j hjn];exact((h2 j hjn).i32 h32).app
 ·obtain⟨k,rfl⟩:∃ k,j=n+k:=⟨j - n,by omega⟩
  have hk:k<m:=by omega
  have hl:xs.length=n*2:=h1.1.1
  rw[e2 k hk]
  obtain⟨s,p,c,d,c0,c1,hz⟩:=hr.val k hk
  refine⟨s,p,c,d,?_,?_,hz.i32 h32⟩
  ·rw[List.getElem?_append_right (by omega),hl,show(n+k)*2 - n*2=k*2 by omega,rowCells_get (by omega),cellOf_eq c0]
  ·rw[List.getElem?_append_right (by omega),hl,show(n+k)*2+1 - n*2=k*2+1 by omega,rowCells_get (by omega),cellOf_eq c1]
end Go.Proofs.YtenlbhlllgppmaaGreatDoor
namespace Go.Proofs.YtenlbhlllgppmaaGreatDoor
open Go.RowKit Eli
theorem c_qNormalQ (s:Bool) (p:Option Addr) (n c:Nat) (t:Bool) (q:Option Addr) (m d:Nat) (x:Rat) (w:World) (h:Qs w s p n c t q m d x) (hx:hq x≤1000000000):
  Calls Tryz.prog 80 #[.agg #[.bool s,.slice p n c,.bool t,.slice q m d]] w fun e w'=>RetQ w' e x∧Below w.heap.size w w':=by
 have h1:=c_qNormal s p n c x.num t q m d x.den w h.1.raw h.2.raw (by have:=h.sizes;omega) (by have:=h.sizes;omega)
 rw[rat_self]at h1
 exact h1
theorem wpl_app0 {P:Program} {W:World} {ops:Array Oper} {rest:List Oper} {o:Oper} {a:Act} {Q:Exit→Act→World→Prop} (hgd:o.guard=none) (s x:Operand) (t E:TypeId)
  (ho:o.op=.call { callee:=.builtin .append,args:=#[s,x],argTypes:=#[t,t] }) {z:Value} {sz bytes:Nat} (hU:P.underlying t=some (.slice E))
  (hinfo:(P.info? E).map (fun i=>(i.zero,i.size,i.bytes))=some (some z,sz,bytes)) (p:Option Addr) (c:Nat)
  (hs:a.eval s=.slice none 0 0) (hx:a.eval x=.slice p 0 c)
  (h:wpList P ops Q rest (a.put o.dst (.slice none 0 0)) W):
  wpList P ops Q (o :: rest) a W:=by
 obtain⟨i0,hi,hz0,hz1,hz2⟩:=info_parts hinfo
 have hsrc:Src P i0.size t (.slice p 0 c) 0 [] W:=by
  cases p with
  | none=>exact Src.ofNil W hU c
  | some a=>exact Src.ofSlice W hU a 0 c [] (by simp) (fun j u h=>by simp at h) (fun u h=>by cases h)
 have hr:=run_append_nothing (P:=P) W t t o.type E i0 hU hi none 0 0 (Nat.le_refl _) (.slice p 0 c) hsrc
 refine wpList_plain hgd fun K' hK'=>?_
 unfold Oper.wp execOp
 simp only[ho,resolve,invoke,builtin,Sem.run_bind,Sem.run_pure,Result.andThen_ok,List.map_toArray,List.map_cons,List.map_nil,hs,hx,hr]
 exact hK' _ _ h
theorem NL.val {F:List Nat} {w:World} {B:Nat} {v:Value} (h:NL F w B v):∃ p c,v=.slice p F.length c:=by
 rcases h with⟨rfl,a,c,rfl⟩ |⟨g,cap,e,_⟩
 ·exact⟨a,c,rfl⟩
 ·exact⟨_,_,e⟩
theorem c_Dim (M B:Nat) (N k D:Int) (F:List Nat) (C:Nat) (X:Nat→Nat→Rat) (w:World) (h:ModAt w M B N k D F C X):
  Calls Tryz.prog 14 #[.pointer (some ⟨M,0,none⟩)] w fun e w'=>e=.returned (.int .i64 (F.length:Int))∧w'=w:=by
 obtain⟨v,c3,h3⟩:=h.c3
 obtain⟨p,c,rfl⟩:=h3.val
 clear h h3
 go_enter Tryz.func14,Tryz.ntmps14
 go_wp2
 go_ret
 exact⟨rfl,rfl⟩
theorem c_Spec (M B:Nat) (N k D:Int) (F:List Nat) (C:Nat) (X:Nat→Nat→Rat) (w:World) (h:ModAt w M B N k D F C X) (hB:B≤w.heap.size):
  Calls Tryz.prog 59 #[.pointer (some ⟨M,0,none⟩)] w fun e w'=>e=.returned (.agg #[.int .i64 N,.int .i64 k,.int .i64 D])∧Below w.heap.size w w':=by
 have hM:=Nat.lt_of_lt_of_le h.lt hB
 have c0:=h.c0
 have c1:=h.c1
 have c2:=h.c2
 clear h
 go_enter Tryz.func59,Tryz.ntmps59
 go_upto_if 4 with(fail)
 obtain⟨w0,hw0,X0,hb0⟩:=bx1 w #[.int .i64 0,.int .i64 0,.int .i64 0] 23
 rw[hw0]
 have c0:=cell_next hb0 c0
 have c1:=cell_next hb0 c1
 have c2:=cell_next hb0 c2
 have r0:=X0.at_ 0 rfl
 have r1:=X0.at_ 1 rfl
 have r2:=X0.at_ 2 rfl
 have f0:=X0.free_ 0
 have f1:=X0.free_ 1
 have f2:=X0.free_ 2
 go_wp2
 have hE:=((X0.set_ 0 (.int .i64 N)).set_ 1 (.int .i64 k)).set_ 2 (.int .i64 D)
 have e0:=hE.at_ 0 rfl
 have e1:=hE.at_ 1 rfl
 have e2:=hE.at_ 2 rfl
 try simp only[Exit.inBlock,Exit.then]
 refine bodyPost_ret (by simp[results,Tryz.results59,go_sem,e0,e1,e2];try rfl) rfl ?_
 exact⟨rfl,((hb0.setCell (p:=⟨w.heap.size,0,none⟩) (Nat.le_refl _) _).setCell (p:=⟨w.heap.size,1,none⟩) (Nat.le_refl _) _).setCell (p:=⟨w.heap.size,2,none⟩) (Nat.le_refl _) _⟩
theorem c_Free (M B:Nat) (N k D:Int) (F:List Nat) (C:Nat) (X:Nat→Nat→Rat) (w:World) (h:ModAt w M B N k D F C X) (hFl:F.length≤1000000):
  Calls Tryz.prog 60 #[.pointer (some ⟨M,0,none⟩)] w fun e w'=>(∃ v,e=.returned v∧OwnN F w' w.heap.size v)∧Below w.heap.size w w':=by
 obtain⟨v,c3,h3⟩:=h.c3
 clear h
 rcases h3 with⟨rfl,a,c,rfl⟩ |⟨g,cap,rfl,hc,hc2,hg,hx⟩
 ·have HN:=Kh (OwnN.nil w w.heap.size)
  go_enter Tryz.func60,Tryz.ntmps60
  go_wp2_with (at_builtin;refine wpl_app0 rfl (.const (.slice none 0 0)) (.tmp 8) _ 3 rfl Tryz.underlying93 intInfo a c rfl rfl ?_)
  go_ret
  exact⟨⟨_,rfl,HN.out⟩,Below.refl _ _⟩
 ·rcases Nat.eq_zero_or_pos F.length with h0|hpos
  ·have HN:=Kh (OwnN.nil w w.heap.size)
   obtain rfl:F=[]:=List.eq_nil_of_length_eq_zero h0
   rw[List.length_nil]at c3
   clear hc hx hFl h0
   go_enter Tryz.func60,Tryz.ntmps60
   go_wp2_with (at_builtin;refine wpl_app0 rfl (.const (.slice none 0 0)) (.tmp 8) _ 3 rfl Tryz.underlying93 intInfo (some ⟨g,0,none⟩) cap rfl rfl ?_)
   go_ret
   exact⟨⟨_,rfl,HN.out⟩,Below.refl _ _⟩
  ·have HX:=Kh hx
   have hnews:∀ (j:Nat) (u:Value),(F.map fun n:Nat=>Value.int .i64 (n:Int))[j]?=some u→w.cell? ⟨g,j,none⟩=some u:=by
    intro j u hj
    rw[List.getElem?_map]at hj
    cases hF:F[j]? with
    | none=>rw[hF]at hj;cases hj
    | some x=>rw[hF]at hj;injection hj with hj;rw[← hj];exact hx j x hF
   have HNW:=Kh hnews
   clear hx hnews
   go_enter Tryz.func60,Tryz.ntmps60
   go_wp2_with (at_builtin;refine wpl_appN NotU32 rfl (.const (.slice none 0 0)) (.tmp 8) _ 3 rfl Tryz.underlying93 intInfo rfl (by decide) w.heap.size 0 F.length g cap (.slice none 0 0) [] (F.map fun n:Nat=>Value.int .i64 (n:Int)) rfl (OwnK.nil _ _ _ _ _) rfl (by rw[List.length_map,Nat.mul_one]) HNW.out (by intro u hu;obtain⟨x,_,rfl⟩:=List.mem_map.1 hu;rfl) (by omega) (by omega) hpos (Nat.le_refl _) (by intro u hu;obtain⟨x,_,rfl⟩:=List.mem_map.1 hu;exact fun _ h=>by cases h) (by intro u hu;simp[Value.cells]at hu;subst hu;exact fun _ h=>by cases h) ?_;intro v' w' hown' hgr hat;have HO:=Kh (show OwnN F w' w.heap.size v' by have h:=hown';rw[Nat.zero_add,List.nil_append]at h;exact h);have HB:=Kh (own_below (Below.refl w.heap.size w) (OwnK.nil NotU32 w w.heap.size 3 1).1 hgr (Nat.le_refl _) (Nat.le_refl _));clear hown' hgr hat)
   go_ret
   exact⟨⟨_,rfl,HO.out⟩,HB.out⟩
end Go.Proofs.YtenlbhlllgppmaaGreatDoor
namespace Go.Proofs.YtenlbhlllgppmaaGreatDoor
open Go.RowKit
/-! The units -/
def uns (n:Nat):Nat→List Nat
 | 0=>[]
 | m+1=>if pun n (m+1)then uns n m++[m+1]else uns n m
theorem uns_succ (n m:Nat):uns n (m+1)=if pun n (m+1)then uns n m++[m+1]else uns n m:=rfl
theorem uns_mem {n m s:Nat}:s∈uns n m↔1≤s∧s≤m∧pun n s=true:=by
 induction m with
 | zero=>constructor
         ·intro h;simp[uns]at h
         ·rintro⟨h1,h2,_⟩;omega
 | succ m ih=>
  rw[uns_succ]
  split
  ·rename_i hu
   rw[List.mem_append,ih,List.mem_singleton]
   constructor
   ·rintro(⟨h1,h2,h3⟩|rfl)
    ·exact⟨h1,by omega,h3⟩
    ·exact⟨by omega,Nat.le_refl _,hu⟩
   ·rintro⟨h1,h2,h3⟩
    rcases Nat.lt_or_ge s (m+1)with h|h
    ·exact .inl ⟨h1,by omega,h3⟩
    ·exact .inr (by omega)
  ·rename_i hu
   rw[ih]
   constructor
   ·rintro⟨h1,h2,h3⟩;exact⟨h1,by omega,h3⟩
   ·rintro⟨h1,h2,h3⟩
    refine⟨h1,?_,h3⟩
    rcases Nat.lt_or_ge s (m+1)with h|h
    ·omega
    ·have:s=m+1:=by omega
     subst this
     exact absurd h3 hu
theorem uns_length (n m:Nat):(uns n m).length≤m:=by
 induction m with
 | zero=>exact Nat.le_refl _
 | succ m ih=>
  rw[uns_succ]
  split
  ·rw[List.length_append];simp;exact ih
  ·omega
def flg (n:Nat) (l:List Nat) (a t i:Nat):Bool:=pseen n l i||((uns n n).take t).any fun s=>pmul n s a==i
theorem flg_zero (n:Nat) (l:List Nat) (a i:Nat):flg n l a 0 i=pseen n l i:=by simp[flg]
theorem flg_succ {n:Nat} {l:List Nat} {a t s:Nat} (h:(uns n n)[t]?=some s) (i:Nat):flg n l a (t+1) i=if i=pmul n s a then true else flg n l a t i:=by
 unfold flg
 rw[List.take_add_one,h,Option.toList_some,List.any_append]
 simp only[List.any_cons,List.any_nil,Bool.or_false]
 by_cases e:i=pmul n s a
 ·rw[if_pos e,e];simp
 ·rw[if_neg e]
  have:(pmul n s a==i)=false:=by simpa using fun h=>e h.symm
  rw[this,Bool.or_false]
theorem flg_all {n:Nat} {l:List Nat} {a:Nat} (i:Nat):flg n l a (uns n n).length i=pseen n (l++[a]) i:=by
 unfold flg
 rw[List.take_length]
 unfold pseen
 rw[List.any_append]
 congr 1
 simp only[List.any_cons,List.any_nil,Bool.or_false]
 rw[Bool.eq_iff_iff]
 simp only[List.any_eq_true,List.mem_range,Bool.and_eq_true,uns_mem]
 constructor
 ·rintro⟨s,⟨h1,h2,h3⟩,e⟩
  exact⟨s - 1,by omega,by rw[show s - 1+1=s by omega];exact⟨h3,e⟩⟩
 ·rintro⟨j,hj,h3,e⟩
  exact⟨j+1,⟨by omega,by omega,h3⟩,e⟩
/-! A row of cells of one kind,written in place: cell i holds f i -/
structure CRow (f:Nat→Value) (w:World) (g m:Nat):Prop where
 stk:Stk NotU32 w g
 free:∀ i,i<m→w.frozen? ⟨g,i,none⟩=false
 val:∀ i,i<m→w.cell? ⟨g,i,none⟩=some (f i)
theorem CRow.keep {f:Nat→Value} {w w':World} {g m:Nat} (h:CRow f w g m) (hb:Below w.heap.size w w'):CRow f w' g m:=
 ⟨h.stk.next hb,fun i hi=>frozen_keep hb (by rw[h.val i hi];rfl) (h.free i hi),fun i hi=>(hb.cell (p:=⟨g,i,none⟩) h.stk.1).trans (h.val i hi)⟩
theorem CRow.grown {f:Nat→Value} {w w':World} {g m:Nat} {o:Option Nat} (h:CRow f w g m) (hg:w.grownBy w' o) (hne:∀ b,o=some b→g≠b):CRow f w' g m:=by
 have hb:w'.heap[g]?=w.heap[g]?:=hg.block g h.stk.1 (fun e=>hne _ e.symm rfl)
 refine⟨⟨Nat.lt_of_lt_of_le h.stk.1 hg.size,fun i v hv=>h.stk.2 i v ((World.cell?_of_block (a:=⟨g,i,none⟩) hb).symm.trans hv)⟩,fun i hi=>(World.frozen?_of_block (a:=⟨g,i,none⟩) hb).trans (h.free i hi),fun i hi=>(World.cell?_of_block (a:=⟨g,i,none⟩) hb).trans (h.val i hi)⟩
theorem CRow.set {f:Nat→Value} {w:World} {g m:Nat} (h:CRow f w g m) (k:Nat) (u:Value) (hu:NotU32 u) (f':Nat→Value) (hf:∀ i,i<m→f' i=if i=k then u else f i):CRow f' (w.setCell ⟨g,k,none⟩ u) g m:=by
 refine⟨stk_put h.stk _ _ hu,fun i hi=>frozen_set (h.free i hi),fun i hi=>?_⟩
 rw[hf i hi]
 by_cases e:i=k
 ·subst e
  rw[if_pos rfl]
  exact World.cell?_setCell_same' _ _ _ (by rw[h.val i hi];rfl)
 ·rw[if_neg e,World.cell?_setCell_other _ _ _ _ (by simp <;> omega)]
  exact h.val i hi
theorem CRow.congr {f f':Nat→Value} {w:World} {g m:Nat} (h:CRow f w g m) (e:∀ i,i<m→f' i=f i):CRow f' w g m:=⟨h.stk,h.free,fun i hi=>by rw[e i hi];exact h.val i hi⟩
theorem CRow.i32 {f:Nat→Value} {w:World} {g m k:Nat} (h:CRow f w g m) (u:Value):I32 w (w.setCell ⟨g,k,none⟩ u):=I32.putU h.stk k u
theorem boolInfo:(Tryz.prog.info? 4).map (fun i=>(i.zero,i.size,i.bytes))=some (some (.bool false),1,1):=by kernel_rfl
theorem makeB (n:Nat) (h:n≤1000000) (w:World):
  (Instr.makeSlice 240 (.int .i64 (n:Int)) (.int .i64 (n:Int))).run Tryz.prog w=.ok (.slice (some ⟨w.heap.size,0,none⟩) n n) (w.alloc (.cells (madeCells #[.bool false] n) 4)):=by
 obtain⟨i,hi,hz0,hz1,hz2⟩:=info_parts boolInfo
 have hr:=run_make (P:=Tryz.prog) w 240 4 i _ Tryz.underlying240 hi hz0 .i64 .i64 n n (by omega) (Int.le_refl _) (by rw[hz2];omega) (by omega)
 rw[Int.toNat_natCast,hz1,Nat.mul_one]at hr
 exact hr
theorem made1 {z:Value} {n i:Nat} {v:Value} (h:(madeCells #[z] n)[i]?=some v):v=z:=by
 unfold madeCells at h
 simp only[Array.getElem?_map,Array.getElem?_range]at h
 split at h
 ·simp only[Option.map_some]at h
  injection h with h
  rw[← h]
  have h3:i % 1=0:=Nat.mod_one i
  show(#[z]:Array Value)[i % 1]! = _
  rw[h3];rfl
 ·cases h
theorem CRow.made {z:Value} (hz:NotU32 z) (w:World) (n:Nat) (t:TypeId):CRow (fun _=>z) (w.alloc (.cells (madeCells #[z] n) t)) w.heap.size n:=by
 have hb:=Blk.new w t (madeCells #[z] n)
 refine⟨Stk.of hb ?_,fun i _=>hb.free_ i,fun i hi=>?_⟩
 ·intro v hv
  obtain⟨i,hi⟩:=Array.getElem?_of_mem (Array.mem_toList_iff.1 hv)
  rw[made1 hi]
  exact hz
 ·rw[hb.cell_ i,Array.getElem?_eq_getElem (by rw[size_madeCells];exact hi)]
  congr 1
  exact made1 (Array.getElem?_eq_getElem (by rw[size_madeCells];exact hi))
/-! Points -/
def ptc (n a:Nat):List Value:=[.int .i64 ((a / n:Nat):Int),.int .i64 ((a % n:Nat):Int),.int .i64 1]
def OwnPt (n:Nat) (l:List Nat) (w:World) (B:Nat) (v:Value):Prop:=OwnK NotU32 w B 213 3 v l.length (l.flatMap (ptc n))
theorem OwnPt.nil (n:Nat) (w:World) (B:Nat):OwnPt n [] w B (.slice none 0 0):=OwnK.nil _ _ _ _ _
theorem OwnPt.keep {n:Nat} {l:List Nat} {w w':World} {B:Nat} {v:Value} (h:OwnPt n l w B v) (hb:Below w.heap.size w w'):OwnPt n l w' B v:=OwnK.keep h hb
theorem OwnPt.push {n:Nat} {l:List Nat} {w':World} {B:Nat} {v':Value} {a:Nat} (h:OwnK NotU32 w' B 213 3 v' (l.length+1) (l.flatMap (ptc n)++ptc n a)):OwnPt n (l++[a]) w' B v':=by
 unfold OwnPt
 rw[List.flatMap_append,List.length_append]
 simpa using h
theorem OwnK.other {K:Value→Prop} {w:World} {B E sz n:Nat} {v:Value} {xs:List Value} (h:OwnK K w B E sz v n xs) {a:Addr} (ha:a.block<B) {u:Value} (hu:K u):OwnK K (w.setCell a u) B E sz v n xs:=
 ⟨ownsRow_setCell_below h.1 ha u,fun g hg=>stk_put (h.2 g hg) _ _ hu⟩
theorem ptInfo:(Tryz.prog.info? 213).map (fun i=>(i.zero,i.size,i.bytes))=some (some (.agg #[.int .i64 0,.int .i64 0,.int .i64 0]),3,24):=by kernel_rfl
def PtL (n:Nat) (l:List Nat) (w:World) (B:Nat) (v:Value):Prop:=(l=[]∧∃ a c,v=.slice a 0 c)∨∃ g cap,v=.slice (some ⟨g,0,none⟩) l.length cap∧g<B∧∀ (j a:Nat),l[j]?=some a→w.cell? ⟨g,j*3,none⟩=some (.int .i64 ((a / n:Nat):Int))∧w.cell? ⟨g,j*3+1,none⟩=some (.int .i64 ((a % n:Nat):Int))∧w.cell? ⟨g,j*3+2,none⟩=some (.int .i64 1)
theorem flat_get {n:Nat}:∀ {l:List Nat} {j a i:Nat},l[j]?=some a→i<3→(l.flatMap (ptc n))[j*3+i]?=(ptc n a)[i]?
 | [],j,a,i,h,_=>by simp at h
 | x :: l,0,a,i,h,hi=>by
  simp at h
  subst h
  rw[List.flatMap_cons,List.getElem?_append_left (by simp[ptc];omega),Nat.zero_mul,Nat.zero_add]
 | x :: l,j+1,a,i,h,hi=>by
  rw[List.getElem?_cons_succ]at h
  rw[List.flatMap_cons,List.getElem?_append_right (by simp[ptc];omega)]
  have e:(j+1)*3+i - (ptc n x).length=j*3+i:=by simp[ptc];omega
  rw[e]
  exact flat_get h hi
theorem OwnPt.ptl {n:Nat} {l:List Nat} {w:World} {B:Nat} {v:Value} (h:OwnPt n l w B v):PtL n l w w.heap.size v:=by
 rcases h.1.2 with⟨e1,e2⟩ |⟨g,cap,cs,e1,hB,hg,hn,hcm,hcs,_⟩
 ·exact .inl ⟨List.eq_nil_of_length_eq_zero e2,_,_,e1⟩
 ·have hs:=h.2 g (by rw[e1];rfl)
  have h1:=h.1
  subst e1
  refine .inr ⟨g,cap,rfl,hs.1,fun j a ha=>⟨?_,?_,?_⟩⟩
  ·exact own_read h1 ((flat_get (i:=0) ha (by omega)).trans rfl)
  ·exact own_read h1 ((flat_get (i:=1) ha (by omega)).trans rfl)
  ·exact own_read h1 ((flat_get (i:=2) ha (by omega)).trans rfl)
theorem PtL.next {n:Nat} {l:List Nat} {w w':World} {B:Nat} {v:Value} (h:PtL n l w B v) (hb:Below B w w'):PtL n l w' B v:=by
 rcases h with h |⟨g,cap,e,hg,hx⟩
 ·exact .inl h
 ·exact .inr ⟨g,cap,e,hg,fun j a ha=>by
   obtain⟨h0,h1,h2⟩:=hx j a ha
   exact⟨(hb.cell (p:=⟨g,_,none⟩) hg).trans h0,(hb.cell (p:=⟨g,_,none⟩) hg).trans h1,(hb.cell (p:=⟨g,_,none⟩) hg).trans h2⟩⟩
theorem PtL.up {n:Nat} {l:List Nat} {w:World} {B B':Nat} {v:Value} (h:PtL n l w B v) (hB:B≤B'):PtL n l w B' v:=by
 rcases h with h |⟨g,cap,e,hg,hx⟩
 ·exact .inl h
 ·exact .inr ⟨g,cap,e,Nat.lt_of_lt_of_le hg hB,hx⟩
end Go.Proofs.YtenlbhlllgppmaaGreatDoor
