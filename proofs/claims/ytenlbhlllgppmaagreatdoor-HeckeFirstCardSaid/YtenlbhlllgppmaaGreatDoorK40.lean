/- matrix.zeros, blank, unit, Identity; store and load of nothing. -/
import Derived.Test.YtenlbhlllgppmaaGreatDoorK37
import Derived.Test.YtenlbhlllgppmaaGreatDoorK13
import Derived.Test.YtenlbhlllgppmaaGreatDoorK39
import Derived.Test.YtenlbhlllgppmaaGreatDoorK34
set_option linter.unusedSimpArgs false
set_option maxRecDepth 100000
set_option maxHeartbeats 8000000
namespace Go.Proofs.YtenlbhlllgppmaaGreatDoor
open Go.RowKit Eli
theorem c_mzeros (n:Nat) (w:World) (hn:n≤1000):
  Calls Tryz.prog 120 #[.int .i64 n] w fun e w'=>(∃ g,e=.returned (.slice (some ⟨g,0,none⟩) n n)∧w.heap.size≤g∧QRow (fun _=>IsQ (((0:Int)):Rat)) w' g n n)∧Below w.heap.size w w':=by
 have hmkQ:=makeQ n (by omega)
 go_enter Tryz.func120,Tryz.ntmps120
 go_wp2_with fail
 have hqm:=QRow.made (fun _=>IsQ (((0:Int)):Rat)) w n
 obtain⟨wy,hwy⟩:∃ wy,w.alloc (.cells (madeCells #[.bool false,.slice none 0 0,.bool false,.slice none 0 0] (n*4)) 86)=wy:=⟨_,rfl⟩
 have hby:Below w.heap.size w wy:=hwy▸(Below.refl _ _).alloc (Nat.le_refl _) _
 rw[hwy]at hqm ⊢
 obtain⟨G,hG⟩:∃ g,w.heap.size=g:=⟨_,rfl⟩
 have HGE:=Kh hG
 rw[hG]at hqm hby ⊢
 have HQM:=Kh hqm
 have HBY:=Kh hby
 clear hqm hby hwy hG
 go_loopw [9] (fun ii wr=>∃ k:Nat,k≤n∧ii=.int .i64 k∧QRow (fun _=>IsQ (((0:Int)):Rat)) wr G n k∧Below G w wr) (fun ii _=>n - (intOf ii).toNat)
 case atStart=>exact⟨0,Nat.zero_le _,rfl,HQM.out,HBY.out⟩
 case round=>
  obtain⟨k,hk,rfl,hrow,hbr⟩:=hrel
  obtain⟨w6,rfl⟩:∃ w6:World,w6=wr:=⟨_,rfl⟩
  have HRQ:=Kh hrow
  have HB6:=Kh hbr
  clear hrow hbr HQM HBY
  by_cases hlt:k<n
  ·have hki:(k:Int)<(n:Int):=by omega
   go_wp2_with fail
   refine(c_qOf 0 w6 (by omega) (by omega)).mono ?_
   rintro e w8 ⟨⟨s6,p6,n6,c6,t6,q6,m6,d6,rfl,hq6⟩,hb8⟩
   have hrr:=HRQ.out.keep (fun _=>IsQ.solid _) hb8
   have HPUT:=Kh (QRow.set (k':=k+1) (fun _=>IsQ.solid _) hrr k hlt (fun _=>IsQ (((0:Int)):Rat)) (IsQ.solid _) (fun i h1 h2=>⟨by omega,rfl⟩) (show IsQ (((0:Int)):Rat) w8 s6 p6 n6 c6 t6 q6 m6 d6 from hq6))
   have HB8:=Kh (HB6.out.trans (hb8.mono (Nat.le_of_lt HRQ.out.sts.1)))
   obtain⟨u0,hu0⟩:=Option.isSome_iff_exists.1 (hrr.has (k*4) (by omega))
   obtain⟨u1,hu1⟩:=Option.isSome_iff_exists.1 (hrr.has (k*4+1) (by omega))
   obtain⟨u2,hu2⟩:=Option.isSome_iff_exists.1 (hrr.has (k*4+2) (by omega))
   obtain⟨u3,hu3⟩:=Option.isSome_iff_exists.1 (hrr.has (k*4+3) (by omega))
   have f0:=hrr.free (k*4) (by omega)
   have f1:=hrr.free (k*4+1) (by omega)
   have f2:=hrr.free (k*4+2) (by omega)
   have f3:=hrr.free (k*4+3) (by omega)
   clear hb8 hrr hq6
   go_wp2
   go_roundw
   case rel=>exact⟨k+1,by omega,by go_num,HPUT.out,below_put4g HB8.out⟩
   case measure=>simp[intOf];omega
  ·obtain rfl:n=k:=by omega
   clear hlt hk
   go_wp2
   go_ret
   exact⟨⟨G,rfl,Nat.le_of_eq HGE.out,HRQ.out⟩,HGE.out▸HB6.out⟩
def zF:Nat→Nat→Rat:=fun _ _=>(((0:Int)):Rat)
theorem c_blank (n:Nat) (w:World) (hn:n≤1000):
  Calls Tryz.prog 102 #[.int .i64 n,.int .i64 n] w fun e w'=>(∃ G gs,e=.returned (.slice (some ⟨G,0,none⟩) n n)∧GM zF n n w' G gs w.heap.size)∧Below w.heap.size w w':=by
 have hmkG:=makeGr n (by omega)
 go_enter Tryz.func102,Tryz.ntmps102
 go_wp2_with fail
 obtain⟨hgm,hhas⟩:=GM.made zF n w n (fun _=>0)
 obtain⟨wG,hwG⟩:∃ wG,w.alloc (.cells (madeCells #[.slice none 0 0] n) 30)=wG:=⟨_,rfl⟩
 have hbG:Below w.heap.size w wG:=hwG▸(Below.refl _ _).alloc (Nat.le_refl _) _
 rw[hwG]at hgm hhas ⊢
 obtain⟨G,hG⟩:∃ G,w.heap.size=G:=⟨_,rfl⟩
 have HGE:=Kh hG
 rw[hG]at hgm hhas hbG ⊢
 have HGM:=Kh hgm
 have HHS:=Kh hhas
 have HBG:=Kh hbG
 clear hgm hhas hwG hbG hG hmkG
 go_loopw [11] (fun ii wr=>∃ (k:Nat) (gs:Nat→Nat),k≤n∧ii=.int .i64 k∧GM zF k n wr G gs G∧(∀ i,i<n→(wr.cell? ⟨G,i,none⟩).isSome=true)∧Below G w wr) (fun ii _=>n - (intOf ii).toNat)
 case atStart=>exact⟨0,_,Nat.zero_le _,rfl,HGM.out,HHS.out,HBG.out⟩
 case round=>
  obtain⟨k,gs,hk,rfl,hgm,hhas,hbr⟩:=hrel
  obtain⟨wk,rfl⟩:∃ wk:World,wk=wr:=⟨_,rfl⟩
  have HGM1:=Kh hgm
  have HHS1:=Kh hhas
  have HBR:=Kh hbr
  clear hgm hhas hbr HGM HHS HBG
  by_cases hlt:k<n
  ·have hki:(k:Int)<(n:Int):=by omega
   go_wp2_with fail
   refine(c_mzeros n wk hn).mono ?_
   rintro e wn ⟨⟨g,rfl,hge,hrow⟩,hbn⟩
   obtain⟨uk,huk⟩:=Option.isSome_iff_exists.1 (HHS1.out k hlt)
   have hun:wn.cell? ⟨G,k,none⟩=some uk:=cell_next hbn huk
   have hfa:=frozen_keep hbn (by rw[huk];rfl) (HGM1.out.free k)
   have hGg:G<g:=Nat.lt_of_lt_of_le HGM1.out.stk.1 hge
   have hsn:=HGM1.out.stk.next hbn
   obtain⟨ws,hws⟩:∃ ws,wn.setCell ⟨G,k,none⟩ (.slice (some ⟨g,0,none⟩) n n)=ws:=⟨_,rfl⟩
   have h32:I32 wn ws:=hws▸I32.putU (hsn.imp fun _=>SliceV.notU32) k _
   have hgr:wn.grownBy ws (some G):=hws▸but_put wn G k _
   have hck:ws.cell? ⟨G,k,none⟩=some (.slice (some ⟨g,0,none⟩) n n):=by rw[← hws];exact World.cell?_setCell_same' _ _ _ (by rw[hun];rfl)
   have HGS:=Kh (show GM zF k n ws G gs G from by
    have h:=HGM1.out.keep hbn
    refine⟨hws▸stk_put h.stk _ _ ⟨_,_,_,rfl⟩,fun i=>hws▸frozen_set (h.free i),h.hB,fun i hi=>?_,fun i hi=>(h.row i hi).i32 (fun _=>IsQ.solid _) h32 hgr (h.ne i hi),h.ge,h.ne,h.inj⟩
    rw[← hws,World.cell?_setCell_other _ _ _ _ (by simp <;> omega)]
    exact h.at_ i hi)
   have HHN:=Kh (show ∀ i,i<n→(ws.cell? ⟨G,i,none⟩).isSome=true from fun i hi=>by
    obtain⟨ui,hui⟩:=Option.isSome_iff_exists.1 (HHS1.out i hi)
    rw[← hws]
    exact some_put (by rw[cell_next hbn hui];rfl))
   have HGN:=Kh (HGS.out.more (g:=g) (by rw[hck];rfl) (hrow.i32 (fun _=>IsQ.solid _) h32 hgr (by omega)) (Nat.le_of_lt hGg) (by omega) (fun i hi=>Nat.ne_of_lt (Nat.lt_of_lt_of_le (HGM1.out.row i hi).sts.1 hge)) hck)
   have HBN:=Kh (show Below G w ws from hws▸((HBR.out.trans (hbn.mono (Nat.le_of_lt HGM1.out.stk.1))).setCell (p:=⟨G,k,none⟩) (Nat.le_refl _) _))
   clear huk hsn h32 hgr hck hrow hbn hge HHS1
   go_wp2
   go_roundw
   case rel=>exact⟨k+1,_,by omega,by go_num,HGN.out,HHN.out,HBN.out⟩
   case measure=>simp[intOf];omega
  ·obtain rfl:n=k:=by omega
   go_wp2
   go_ret
   exact⟨⟨G,gs,rfl,HGM1.out.base (Nat.le_of_eq HGE.out)⟩,HGE.out▸HBR.out⟩
def uF (k:Nat):Nat→Nat→Rat:=fun i q=>if i=q∧i<k then(((1:Int)):Rat)else(((0:Int)):Rat)
theorem uF_put (k i q:Nat) (_hi:True):uF (k+1) i q=putR (uF k) k (fun q=>if q=k then(((1:Int)):Rat)else(((0:Int)):Rat)) i q:=by
 unfold putR uF
 by_cases h:i=k
 ·subst h
  rw[if_pos rfl]
  by_cases hq:q=i
  ·rw[if_pos ⟨hq.symm,by omega⟩,if_pos hq]
  ·rw[if_neg (fun h=>hq h.1.symm),if_neg hq]
 ·rw[if_neg h]
  by_cases hq:i=q∧i<k
  ·rw[if_pos hq,if_pos ⟨hq.1,by omega⟩]
  ·rw[if_neg hq,if_neg (fun h2=>hq ⟨h2.1,by omega⟩)]
theorem c_unit (n:Nat) (w:World) (hn:n≤1000):
  Calls Tryz.prog 56 #[.int .i64 n] w fun e w'=>(∃ G gs,e=.returned (.slice (some ⟨G,0,none⟩) n n)∧GM (uF n) n n w' G gs w.heap.size)∧Below w.heap.size w w':=by
 go_enter Tryz.func56,Tryz.ntmps56
 go_wp2_with fail
 refine(c_blank n w hn).mono ?_
 rintro e w1 ⟨⟨G,gs,rfl,hgm⟩,hb1⟩
 have HGM:=Kh (show GM (uF 0) n n w1 G gs w.heap.size from hgm.congr (fun i q _ _=>by unfold uF zF;rw[if_neg (fun h=>absurd h.2 (Nat.not_lt_zero _))]))
 have HB1:=Kh hb1
 clear hgm hb1
 go_wp2_with fail
 go_loopw [10] (fun ii wr=>∃ k:Nat,k≤n∧ii=.int .i64 k∧GM (uF k) n n wr G gs w.heap.size∧Below w.heap.size w wr) (fun ii _=>n - (intOf ii).toNat)
 case atStart=>exact⟨0,Nat.zero_le _,rfl,HGM.out,HB1.out⟩
 case round=>
  obtain⟨k,hk,rfl,hgm,hbr⟩:=hrel
  obtain⟨we,rfl⟩:∃ we:World,we=wr:=⟨_,rfl⟩
  have HG1:=Kh hgm
  have HB2:=Kh hbr
  clear hgm hbr HGM HB1
  by_cases hlt:k<n
  ·have hki:(k:Int)<(n:Int):=by omega
   have l0:=HG1.out.at_ k hlt
   have hrow:=HG1.out.row k hlt
   have hfr:=hrow.free
   obtain⟨s0,p0,n0,c0,t0,q0,m0,d0,a0,a1,a2,a3,_⟩:=hrow.val k hlt
   have HHR:=Kh hrow
   clear hrow
   go_upto_region 5 with(fail)
   refine rgB (fun W=>W.cell? ⟨G,k,none⟩=some (.slice (some ⟨gs k,0,none⟩) n n)∧W.cell? ⟨gs k,k*4,none⟩=some (.bool s0)∧W.frozen? ⟨gs k,k*4,none⟩=false∧W.cell? ⟨gs k,k*4+1,none⟩=some (.slice p0 n0 c0)∧W.frozen? ⟨gs k,k*4+1,none⟩=false∧W.cell? ⟨gs k,k*4+2,none⟩=some (.bool t0)∧W.frozen? ⟨gs k,k*4+2,none⟩=false∧W.cell? ⟨gs k,k*4+3,none⟩=some (.slice q0 m0 d0)∧W.frozen? ⟨gs k,k*4+3,none⟩=false) (fun W hb=>⟨cnx hb l0,cnx hb a0,frozen_keep hb (by rw[a0];rfl) (hfr (k*4) (by omega)),cnx hb a1,frozen_keep hb (by rw[a1];rfl) (hfr (k*4+1) (by omega)),cnx hb a2,frozen_keep hb (by rw[a2];rfl) (hfr (k*4+2) (by omega)),cnx hb a3,frozen_keep hb (by rw[a3];rfl) (hfr (k*4+3) (by omega))⟩) (fun HSE hHeld0=>?_)
   refine tkE 0 ?_;refine tkE 1 ?_;refine tkE 2 ?_;refine tkE 3 ?_;refine tkE 4 ?_
   refine stE 5 rfl (fun K hK=>?_)
   focus(go_simp;refine(c_qOf 1 we.drew (by omega) (by omega)).mono ?_;rintro e w8 ⟨⟨s6,p6,n6,c6,t6,q6,m6,d6,rfl,hq6⟩,hb8⟩;have HB8:=Kh ((Below.refl _ we).drew.trans hb8:Below we.heap.size we w8);have hG8:=HG1.out.keep HB8.out;have hrw:=hG8.row k hlt;have hs8:=hrw.sts;have h32:=I32.put4 hs8 (k*4) (k*4+1) (k*4+2) (k*4+3) (.bool s6) (.slice p6 n6 c6) (.bool t6) (.slice q6 m6 d6) (NotInt.bool _) (NotInt.slice _ _ _) (NotInt.bool _);have HPUT:=Kh ((hG8.put hlt (QRow.set (k':=n) (fun _=>IsQ.solid _) hrw k hlt (fun q=>IsQ (if q=k then(((1:Int)):Rat)else(((0:Int)):Rat))) (IsQ.solid _) (fun i h1 h2=>⟨h1,by rw[if_neg h2];unfold uF;rw[if_neg (fun h=>absurd h.2 (Nat.lt_irrefl _))]⟩) (by rw[if_pos rfl];exact hq6)) ((((but_put w8 (gs k) (k*4) _).trans (but_put _ (gs k) (k*4+1) _)).trans (but_put _ (gs k) (k*4+2) _)).trans (but_put _ (gs k) (k*4+3) _)) h32).congr (fun i q _ _=>uF_put k i q trivial));have HBP:=Kh (below_but (HB2.out.trans (HB8.out.mono HB2.out.size)) ((((but_put w8 (gs k) (k*4) (.bool s6)).trans (but_put _ (gs k) (k*4+1) (.slice p6 n6 c6))).trans (but_put _ (gs k) (k*4+2) (.bool t6))).trans (but_put _ (gs k) (k*4+3) (.slice q6 m6 d6))) (Nat.le_trans HB2.out.size HB8.out.size) (HG1.out.ge k hlt));clear hb8 hq6 hG8 hrw hs8 h32;(first|with_reducible refine hK.out _ _ ?_ (fun hHeld1=>?_) |(go_wp2_with fail;with_reducible refine hK.out _ _ ?_ (fun hHeld1=>?_))))
   focus((try dsimp only);exact HSE.out _ HB8.out)
   focus(clear hK K;(try simp only[Act.put,lsa,lsz,lss]))
   refine tkE 6 ?_
   refine laE 7 rfl (fun K hK=>?_)
   go_simp
   refine hK.out _ _ ?_
   clear hK K
   (try simp only[Act.put,lsa,lsz,lss])
   go_wp2
   go_roundw
   case rel=>exact⟨k+1,by omega,by go_num,HPUT.out,HBP.out⟩
   case measure=>simp[intOf];omega
  ·obtain rfl:n=k:=by omega
   go_wp2
   go_ret
   exact⟨⟨G,gs,rfl,HG1.out⟩,HB2.out⟩
theorem c_Identity (n:Nat) (w:World) (h0:0<n) (hn:n≤1000):
  Calls Tryz.prog 13 #[.int .i64 n] w fun e w'=>(∃ p c,e=.returned (.tuple #[.agg #[.int .i64 n,.int .i64 n,.slice p (n*n) c],.int .i64 0])∧QL (fun j=>IsQ (uF n (j / n) (j % n))) w' (.slice p (n*n) c) (n*n))∧Below w.heap.size w w':=by
 go_enter Tryz.func13,Tryz.ntmps13
 go_wp2_with fail
 obtain⟨w0,hw0,X0,hb0⟩:=bx1 w #[.int .i64 0,.int .i64 0,.slice none 0 0] 32
 rw[hw0]
 refine(c_mfits n w0 (by omega)).mono ?_
 rintro e w1 ⟨rfl,hb1⟩
 have HX1:=Kh (X0.below_ hb1 X0.lt)
 have HB1:=Kh (hb0.trans (hb1.mono hb0.size))
 clear hw0 X0 hb0 hb1
 go_wp2_with fail
 refine(c_unit n w1 hn).mono ?_
 rintro e w2 ⟨⟨G,gs,rfl,hgm⟩,hb2⟩
 have HX2:=Kh (bk HX1 hb2)
 have HB2:=bt HB1 hb2
 have HGM:=Kh hgm
 clear hgm hb2 HX1 HB1
 go_wp2_with fail
 refine(c_mstore (uF n) n n n G n gs w1.heap.size w2 HGM.out (Nat.le_refl _) (by omega) h0 (by omega)).mono ?_
 rintro e w6 ⟨⟨v6,rfl,ho6⟩,hb6⟩
 obtain⟨p6,c6,rfl⟩:∃ p c,v6=.slice p (n*n) c:=by
  obtain⟨_,hk6,_⟩:=ho6
  exact own_slice hk6.1
 obtain⟨gr,hgr⟩:∃ x,w.heap.size=x:=⟨_,rfl⟩
 have HGE:=Kh hgr
 have X6:=bk HX2 hb6
 have hgl:=HX2.out.lt
 have HBF:=HB2.out.trans (hb6.mono HB2.out.size)
 rw[hgr]at X6 hgl HBF ⊢
 have r0:=X6.at_ 0 rfl
 have r1:=X6.at_ 1 rfl
 have r2:=X6.at_ 2 rfl
 have f0:=X6.free_ 0
 have f1:=X6.free_ 1
 have f2:=X6.free_ 2
 have hst6:Stk NotU32 w6 gr:=Stk.of X6 (by intro v hv;simp at hv;rcases hv with rfl|rfl|rfl <;> exact fun _ h=>by cases h)
 have HE3:=Kh (put3_at (w:=w6) (R:=gr) (v0:=.int .i64 (n:Int)) (v1:=.int .i64 (n:Int)) (v2:=.slice p6 (n*n) c6) (by rw[r0];rfl) (by rw[r1];rfl) (by rw[r2];rfl))
 have HI3:=Kh (put3_32 hst6 (v0:=.int .i64 (n:Int)) (v1:=.int .i64 (n:Int)) (v2:=.slice p6 (n*n) c6) (fun _ h=>by cases h) (fun _ h=>by cases h))
 have HG3:=Kh (((but_put w6 gr 0 (.int .i64 (n:Int))).trans (but_put _ gr 1 (.int .i64 (n:Int)))).trans (but_put _ gr 2 (.slice p6 (n*n) c6)))
 have HQ6:=Kh ho6.ql
 have HF6:=Kh (own_from ho6)
 have HGL:=Kh hgl
 have HBB:=Kh HBF
 clear X6 hst6 ho6 hb6 hgl HBF HX2 HB2
 go_wp2
 have e0:=HE3.out.1
 have e1:=HE3.out.2.1
 have e2:=HE3.out.2.2
 try simp only[Exit.inBlock,Exit.then]
 refine bodyPost_ret (by simp[results,Tryz.results13,go_sem,e0,e1,e2];try rfl) rfl ?_
 exact⟨⟨p6,c6,rfl,HQ6.out.boxed (fun _=>IsQ.solid _) HI3.out HG3.out (fun a ha=>by have:=HF6.out a ha;have:=HGL.out;omega)⟩,by rw[HGE.out];exact below_but HBB.out HG3.out (by have:=HBB.out.size;have:=HGE.out;omega) (Nat.le_refl _)⟩
theorem c_load0 (w:World):
  Calls Tryz.prog 71 #[.agg #[.int .i64 0,.int .i64 0,.slice none 0 0]] w fun e w'=>(∃ G,e=.returned (.slice (some ⟨G,0,none⟩) 0 0))∧Below w.heap.size w w':=by
 have hmkG:=makeGr 0 (by omega)
 simp only[Int.natCast_zero]at hmkG
 go_enter Tryz.func71,Tryz.ntmps71
 go_wp2_with fail
 obtain⟨w1,hw1⟩:∃ w1,(w.alloc (.cells #[.int .i64 0,.int .i64 0,.slice none 0 0] 32)).alloc (.cells (madeCells #[.slice none 0 0] 0) 30)=w1:=⟨_,rfl⟩
 have hb1:Below w.heap.size w w1:=hw1▸((Below.refl _ _).alloc (Nat.le_refl _) _).alloc (by simp) _
 rw[hw1]
 have HB1:=Kh hb1
 clear hw1 hb1 hmkG
 go_loopw [11] (fun ii wr=>ii=.int .i64 0∧Below w.heap.size w wr) (fun _ _=>0)
 case atStart=>exact⟨rfl,HB1.out⟩
 case round=>
  obtain⟨rfl,hb⟩:=hrel
  have HB:=Kh hb
  clear hb HB1
  go_wp2
  go_ret
  exact⟨⟨_,rfl⟩,HB.out⟩
theorem c_mstore0 (G cap:Nat) (w:World):
  Calls Tryz.prog 55 #[.int .i64 0,.slice (some ⟨G,0,none⟩) 0 cap] w fun e w'=>e=.returned (.agg #[.int .i64 0,.int .i64 0,.slice none 0 0])∧Below w.heap.size w w':=by
 go_enter Tryz.func55,Tryz.ntmps55
 go_wp2_with fail
 obtain⟨w0,hw0,X0,hb0⟩:=bx1 w #[.int .i64 0,.int .i64 0,.slice none 0 0] 32
 rw[hw0]
 obtain⟨gr,hgr⟩:∃ x,w.heap.size=x:=⟨_,rfl⟩
 have HGE:=Kh (show w.heap.size≤gr from Nat.le_of_eq hgr)
 have HX0:=Kh (show Blk w0 gr 32 #[.int .i64 0,.int .i64 0,.slice none 0 0]from hgr▸X0)
 have HB0:=Kh hb0
 try rw[hgr]
 obtain⟨w1,hw1,Y0,hb1⟩:=bx1 w0 #[.int .i64 0,.int .i64 0,.slice none 0 0] 32
 rw[hw1]
 have hsz:w0.heap.size=gr+1:=by rw[← hw0,← hgr];simp
 obtain⟨ob,hob⟩:∃ x,gr+1=x:=⟨_,rfl⟩
 rw[hsz,hob]at Y0
 try rw[hob]
 have HXR:=Kh (bk HX0 hb1)
 have HY:=Kh Y0
 have HBR:=bt HB0 hb1
 clear hw0 X0 hb0 hw1 hb1 Y0 HX0 HB0 hgr hob hsz
 go_loopw [14] (fun ii wr=>ii=.int .i64 0∧wr=w1) (fun _ _=>0)
 case atStart=>exact⟨rfl,rfl⟩
 case round=>
  obtain⟨rfl,rfl⟩:=hrel
  have y0:=HY.out.at_ 0 rfl
  have y1:=HY.out.at_ 1 rfl
  have y2:=HY.out.at_ 2 rfl
  have r0:=HXR.out.at_ 0 rfl
  have r1:=HXR.out.at_ 1 rfl
  have r2:=HXR.out.at_ 2 rfl
  have f0:=HXR.out.free_ 0
  have f1:=HXR.out.free_ 1
  have f2:=HXR.out.free_ 2
  have HE3:=Kh (put3_at (w:=wr) (R:=gr) (v0:=.int .i64 0) (v1:=.int .i64 0) (v2:=.slice none 0 0) (by rw[r0];rfl) (by rw[r1];rfl) (by rw[r2];rfl))
  have HBS:=Kh (show Below w.heap.size w (((wr.setCell ⟨gr,0,none⟩ (.int .i64 0)).setCell ⟨gr,1,none⟩ (.int .i64 0)).setCell ⟨gr,2,none⟩ (.slice none 0 0))from((HBR.out.setCell (p:=⟨gr,0,none⟩) HGE.out _).setCell (p:=⟨gr,1,none⟩) HGE.out _).setCell (p:=⟨gr,2,none⟩) HGE.out _)
  go_wp2
  have e0:=HE3.out.1
  have e1:=HE3.out.2.1
  have e2:=HE3.out.2.2
  try simp only[Exit.inBlock,Exit.then]
  refine bodyPost_ret (by simp[results,Tryz.results55,go_sem,e0,e1,e2];try rfl) rfl ?_
  exact⟨rfl,HBS.out⟩
theorem c_FromRows0 (p:Option Addr) (c:Nat) (w:World):
  Calls Tryz.prog 62 #[.int .i64 0,.slice p 0 c] w fun e w'=>e=.returned (.tuple #[.agg #[.int .i64 0,.int .i64 0,.slice none 0 0],.int .i64 0])∧Below w.heap.size w w':=by
 go_enter Tryz.func62,Tryz.ntmps62
 go_wp2_with fail
 obtain⟨w0,hw0,X0,hb0⟩:=bx1 w #[.int .i64 0,.int .i64 0,.slice none 0 0] 32
 rw[hw0]
 obtain⟨gr,hgr⟩:∃ x,w.heap.size=x:=⟨_,rfl⟩
 have HGE:=Kh (show w.heap.size≤gr from Nat.le_of_eq hgr)
 have HX0:=Kh (show Blk w0 gr 32 #[.int .i64 0,.int .i64 0,.slice none 0 0]from hgr▸X0)
 have HB0:=Kh hb0
 try rw[hgr]
 refine(c_mfits 0 w0 (by omega)).mono ?_
 rintro e w1 ⟨rfl,hb1⟩
 have HX1:=Kh (bk HX0 hb1)
 have HB1:=bt HB0 hb1
 clear hw0 X0 hb0 hb1 HX0 HB0 hgr
 go_wp2_with fail
 refine(c_mfits 0 w1 (by omega)).mono ?_
 rintro e w2 ⟨rfl,hb2⟩
 have HX2:=Kh (bk HX1 hb2)
 have HB2:=bt HB1 hb2
 clear hb2 HX1 HB1
 go_wp2_with fail
 obtain⟨w3,hw3,Y0,hb3⟩:=bx1 w2 #[.int .i64 0,.int .i64 0,.slice none 0 0] 32
 rw[hw3]
 obtain⟨ob,hob⟩:∃ x,w2.heap.size=x:=⟨_,rfl⟩
 rw[hob]at Y0
 try rw[hob]
 have HX3:=Kh (bk HX2 hb3)
 have HY:=Kh Y0
 have HB3:=bt HB2 hb3
 clear hw3 hb3 Y0 HX2 HB2 hob
 go_loopw [25] (fun ii wr=>ii=.int .i64 0∧wr=w3) (fun _ _=>0)
 case atStart=>exact⟨rfl,rfl⟩
 case round=>
  obtain⟨rfl,rfl⟩:=hrel
  have y0:=HY.out.at_ 0 rfl
  have y1:=HY.out.at_ 1 rfl
  have y2:=HY.out.at_ 2 rfl
  go_wp2_with fail
  refine(c_load0 wr).mono ?_
  rintro e w4 ⟨⟨G,rfl⟩,hb4⟩
  have HX4:=Kh (bk HX3 hb4)
  have HB4:=bt HB3 hb4
  clear y0 y1 y2 hb4 HX3 HB3 HY
  go_wp2_with fail
  refine(c_mstore0 G 0 w4).mono ?_
  rintro e w5 ⟨rfl,hb5⟩
  have HXR:=Kh (bk HX4 hb5)
  have HBR:=bt HB4 hb5
  clear hb5 HX4 HB4
  have r0:=HXR.out.at_ 0 rfl
  have r1:=HXR.out.at_ 1 rfl
  have r2:=HXR.out.at_ 2 rfl
  have f0:=HXR.out.free_ 0
  have f1:=HXR.out.free_ 1
  have f2:=HXR.out.free_ 2
  have HE3:=Kh (put3_at (w:=w5) (R:=gr) (v0:=.int .i64 0) (v1:=.int .i64 0) (v2:=.slice none 0 0) (by rw[r0];rfl) (by rw[r1];rfl) (by rw[r2];rfl))
  have HBS:=Kh (show Below w.heap.size w (((w5.setCell ⟨gr,0,none⟩ (.int .i64 0)).setCell ⟨gr,1,none⟩ (.int .i64 0)).setCell ⟨gr,2,none⟩ (.slice none 0 0))from((HBR.out.setCell (p:=⟨gr,0,none⟩) HGE.out _).setCell (p:=⟨gr,1,none⟩) HGE.out _).setCell (p:=⟨gr,2,none⟩) HGE.out _)
  go_wp2
  have e0:=HE3.out.1
  have e1:=HE3.out.2.1
  have e2:=HE3.out.2.2
  try simp only[Exit.inBlock,Exit.then]
  refine bodyPost_ret (by simp[results,Tryz.results62,go_sem,e0,e1,e2];try rfl) rfl ?_
  exact⟨rfl,HBS.out⟩
theorem c_Identity0 (w:World):
  Calls Tryz.prog 13 #[.int .i64 0] w fun e w'=>e=.returned (.tuple #[.agg #[.int .i64 0,.int .i64 0,.slice none 0 0],.int .i64 0])∧Below w.heap.size w w':=by
 go_enter Tryz.func13,Tryz.ntmps13
 go_wp2_with fail
 obtain⟨w0,hw0,X0,hb0⟩:=bx1 w #[.int .i64 0,.int .i64 0,.slice none 0 0] 32
 rw[hw0]
 obtain⟨gr,hgr⟩:∃ x,w.heap.size=x:=⟨_,rfl⟩
 have HGE:=Kh (show w.heap.size≤gr from Nat.le_of_eq hgr)
 have HX0:=Kh (show Blk w0 gr 32 #[.int .i64 0,.int .i64 0,.slice none 0 0]from hgr▸X0)
 have HB0:=Kh hb0
 try rw[hgr]
 refine(c_mfits 0 w0 (by omega)).mono ?_
 rintro e w1 ⟨rfl,hb1⟩
 have HX1:=Kh (bk HX0 hb1)
 have HB1:=bt HB0 hb1
 clear hw0 X0 hb0 hb1 HX0 HB0 hgr
 go_wp2_with fail
 refine(c_unit 0 w1 (by omega)).mono ?_
 rintro e w2 ⟨⟨G,gs,rfl,_⟩,hb2⟩
 have HX2:=Kh (bk HX1 hb2)
 have HB2:=bt HB1 hb2
 clear hb2 HX1 HB1
 go_wp2_with fail
 refine(c_mstore0 G 0 w2).mono ?_
 rintro e w5 ⟨rfl,hb5⟩
 have HXR:=Kh (bk HX2 hb5)
 have HBR:=bt HB2 hb5
 clear hb5 HX2 HB2
 have r0:=HXR.out.at_ 0 rfl
 have r1:=HXR.out.at_ 1 rfl
 have r2:=HXR.out.at_ 2 rfl
 have f0:=HXR.out.free_ 0
 have f1:=HXR.out.free_ 1
 have f2:=HXR.out.free_ 2
 have HE3:=Kh (put3_at (w:=w5) (R:=gr) (v0:=.int .i64 0) (v1:=.int .i64 0) (v2:=.slice none 0 0) (by rw[r0];rfl) (by rw[r1];rfl) (by rw[r2];rfl))
 have HBS:=Kh (show Below w.heap.size w (((w5.setCell ⟨gr,0,none⟩ (.int .i64 0)).setCell ⟨gr,1,none⟩ (.int .i64 0)).setCell ⟨gr,2,none⟩ (.slice none 0 0))from((HBR.out.setCell (p:=⟨gr,0,none⟩) HGE.out _).setCell (p:=⟨gr,1,none⟩) HGE.out _).setCell (p:=⟨gr,2,none⟩) HGE.out _)
 go_wp2
 have e0:=HE3.out.1
 have e1:=HE3.out.2.1
 have e2:=HE3.out.2.2
 try simp only[Exit.inBlock,Exit.then]
 refine bodyPost_ret (by simp[results,Tryz.results13,go_sem,e0,e1,e2];try rfl) rfl ?_
 exact⟨rfl,HBS.out⟩
theorem c_act0 {M n wt:Nat} {D:Int} {C:Nat} {X:Nat→Nat→Rat} (v:Value) (w:World) (hT:Tab w) (hm:ModR w M n wt D [] C X):
  Calls Tryz.prog 53 #[.pointer (some ⟨M,0,none⟩),v] w fun e w'=>e=.returned (.tuple #[.agg #[.int .i64 0,.int .i64 0,.slice none 0 0],.int .i64 0])∧Below w.heap.size w w':=by
 have hck:=hm.check
 have HM:=Kh hm
 have HT:=Kh hT
 have hmkR:=makeRC 0 (by omega)
 simp only[Int.natCast_zero]at hmkR
 clear hm hT
 go_enter Tryz.func53,Tryz.ntmps53
 go_wp2_with fail
 obtain⟨w0,hw0,X0,hb0⟩:=bx1 w #[.int .i64 0,.int .i64 0,.slice none 0 0] 32
 rw[hw0]
 obtain⟨gr,hgr⟩:∃ x,w.heap.size=x:=⟨_,rfl⟩
 have HGE:=Kh (show w.heap.size≤gr from Nat.le_of_eq hgr)
 have HX0:=Kh (show Blk w0 gr 32 #[.int .i64 0,.int .i64 0,.slice none 0 0]from hgr▸X0)
 have HB0:=Kh hb0
 try rw[hgr]
 have HM0:=Kh (HM.out.keep hb0)
 have HT0:=Kh (HT.out.below hb0)
 refine(c_Spec M w0.heap.size n ((wt:Int)+2) D [] C X w0 HM0.out.mod (Nat.le_refl _)).mono ?_
 rintro e w1 ⟨rfl,hb1⟩
 have HX1:=Kh (bk HX0 hb1)
 have HB1:=bt HB0 hb1
 have HM1:=Kh (HM0.out.keep hb1)
 have HT1:=Kh (HT0.out.below hb1)
 clear hw0 X0 hb0 hb1 HX0 HB0 hgr HM HT HM0 HT0
 go_wp2_with fail
 refine(c_MCountH n wt D w1 HT1.out hck).mono ?_
 rintro e w2 ⟨rfl,hb2⟩
 have HX2:=Kh (bk HX1 hb2)
 have HB2:=bt HB1 hb2
 have HM2:=Kh (HM1.out.keep hb2)
 clear hb2 HX1 HB1 HM1 HT1
 go_wp2_with fail
 refine(c_Dim M w2.heap.size n ((wt:Int)+2) D [] C X w2 HM2.out.mod).mono ?_
 rintro e w' ⟨rfl,hw'⟩
 obtain rfl:w2=w':=hw'.symm
 clear hw'
 simp only[List.length_nil,Int.natCast_zero]
 obtain⟨w3,hw3⟩:∃ w3,w2.alloc (.cells (madeCells #[.slice none 0 0] 0) 30)=w3:=⟨_,rfl⟩
 have hb3:Below w2.heap.size w2 w3:=hw3▸(Below.refl _ _).alloc (Nat.le_refl _) _
 have HX3:=Kh (bk HX2 hb3)
 have HB3:=bt HB2 hb3
 have HM3:=Kh (HM2.out.keep hb3)
 clear hb3 HX2 HB2 HM2
 go_wp2_with fail
 clear hw3
 refine(c_Free M w3.heap.size n ((wt:Int)+2) D [] C X w3 HM3.out.mod (by simp)).mono ?_
 rintro e w4 ⟨⟨vF,rfl,hof⟩,hb4⟩
 obtain⟨pF,cF,rfl⟩:=own_slice hof.1
 have HX4:=Kh (bk HX3 hb4)
 have HB4:=bt HB3 hb4
 have HM4:=Kh (HM3.out.keep hb4)
 clear hb4 HX3 HB3 HM3 hof
 simp only[List.length_nil]
 go_wp2_with fail
 go_loopw [8,40] (fun v8 ii wr=>(∃ p c,v8=.slice p 0 c)∧ii=.int .i64 0∧wr=w4) (fun _ _ _=>0)
 case atStart=>exact⟨⟨_,_,rfl⟩,rfl,rfl⟩
 case round=>
  obtain⟨⟨p8,c8,rfl⟩,rfl,rfl⟩:=hrel
  go_wp2_with fail
  refine(c_Dim M wr.heap.size n ((wt:Int)+2) D [] C X wr HM4.out.mod).mono ?_
  rintro e w' ⟨rfl,hw'⟩
  obtain rfl:wr=w':=hw'.symm
  clear hw'
  simp only[List.length_nil,Int.natCast_zero]
  go_wp2_with fail
  refine(c_FromRows0 p8 c8 wr).mono ?_
  rintro e w5 ⟨rfl,hb5⟩
  have HXR:=Kh (bk HX4 hb5)
  have HBR:=bt HB4 hb5
  clear hb5 HX4 HB4 HM4
  have r0:=HXR.out.at_ 0 rfl
  have r1:=HXR.out.at_ 1 rfl
  have r2:=HXR.out.at_ 2 rfl
  have f0:=HXR.out.free_ 0
  have f1:=HXR.out.free_ 1
  have f2:=HXR.out.free_ 2
  have HE3:=Kh (put3_at (w:=w5) (R:=gr) (v0:=.int .i64 0) (v1:=.int .i64 0) (v2:=.slice none 0 0) (by rw[r0];rfl) (by rw[r1];rfl) (by rw[r2];rfl))
  have HBS:=Kh (show Below w.heap.size w (((w5.setCell ⟨gr,0,none⟩ (.int .i64 0)).setCell ⟨gr,1,none⟩ (.int .i64 0)).setCell ⟨gr,2,none⟩ (.slice none 0 0))from((HBR.out.setCell (p:=⟨gr,0,none⟩) HGE.out _).setCell (p:=⟨gr,1,none⟩) HGE.out _).setCell (p:=⟨gr,2,none⟩) HGE.out _)
  go_wp2
  have e0:=HE3.out.1
  have e1:=HE3.out.2.1
  have e2:=HE3.out.2.2
  try simp only[Exit.inBlock,Exit.then]
  refine bodyPost_ret (by simp[results,Tryz.results53,go_sem,e0,e1,e2];try rfl) rfl ?_
  exact⟨rfl,HBS.out⟩
theorem QL.boxM {f:Nat→Rat} {w w':World} {p:Option Addr} {m c R:Nat} (h:QL (fun j=>IsQ (f j)) w (.slice p m c) m) (hnb:Stk (fun v=>∀ b,v≠.bool b) w R) (h32:I32 w w') (hg:w.grownBy w' (some R)):QL (fun j=>IsQ (f j)) w' (.slice p m c) m:=by
 rcases Nat.eq_zero_or_pos m with h0|h0
 ·subst h0
  exact .inl ⟨rfl,p,c,rfl⟩
 ·obtain⟨g,o,cap,e1,_,h1⟩:=h.resolve_left (fun h=>by omega)
  refine h.boxed (fun _=>IsQ.solid _) h32 hg (fun a ha e=>?_)
  injection e1 with e1
  obtain⟨s,p',n',c',t,q,m',d,h2,_⟩:=h1 0 h0
  rw[ha]at e1
  injection e1 with e1
  rw[e1]at e
  rw[show g=R from e]at h2
  exact hnb.2 _ _ h2 _ rfl
theorem QL.eqv {f g:Nat→Rat} {w:World} {v:Value} {n:Nat} (h:QL (fun j=>IsQ (f j)) w v n) (e:∀ j,j<n→f j=g j):QL (fun j=>IsQ (g j)) w v n:=by
 rcases h with h |⟨b,o,c,h1,h2,h3⟩
 ·exact .inl h
 ·exact .inr ⟨b,o,c,h1,h2,fun j hj=>by show QE (IsQ (g j)) w b (o+j*4);rw[← e j hj];exact h3 j hj⟩
def OpRet (FL:Nat) (f:Nat→Nat→Rat) (w':World) (e:Ending):Prop:=∃ p c,e=.returned (.tuple #[.agg #[.int .i64 FL,.int .i64 FL,.slice p (FL*FL) c],.int .i64 0])∧QL (fun j=>IsQ (f (j / FL) (j % FL))) w' (.slice p (FL*FL) c) (FL*FL)
theorem c_actA {M n wt:Nat} {D:Int} {F:List Nat} {C:Nat} {X:Nat→Nat→Rat} (gs:List M4) (v:Value) (w:World) (hT:Tab w) (hm:ModR w M n wt D F C X) (hlow:∀ f,f∈F→f<C) (hC:C≤72) (hv:MatsIn w v gs) (hgs:gs.length≤4096) (hgi:∀ t,t<gs.length→GIn (gs.getD t (0,0,0,0))):
  Calls Tryz.prog 53 #[.pointer (some ⟨M,0,none⟩),v] w fun e w'=>OpRet F.length (hkM n wt D F C X gs) w' e∧Below w.heap.size w w':=by
 cases F with
 | nil=>
  refine(c_act0 v w hT hm).mono ?_
  rintro e w' ⟨rfl,hb⟩
  exact⟨⟨none,0,rfl,.inl ⟨rfl,none,0,rfl⟩⟩,hb⟩
 | cons a r=>exact c_act gs v w hT hm hlow (Nat.succ_pos _) hC hv hgs hgi
theorem c_Merel_bad (n:Int) (w:World) (h:n<1∨128<n):
  Calls Tryz.prog 52 #[.int .i64 n] w fun e w'=>e=.returned (.tuple #[.slice none 0 0,.int .i64 2])∧Below w.heap.size w w':=by
 have h0:=Below.refl w.heap.size w
 go_enter Tryz.func52,Tryz.ntmps52
 by_cases h1:n<1
 ·go_wp2
  go_ret2
  exact⟨rfl,Below.refl _ _⟩
 ·have h2:128<n:=by omega
  go_wp2
  go_ret2
  exact⟨rfl,Below.refl _ _⟩
theorem c_Operator {M n wt:Nat} {D:Int} {F:List Nat} {C:Nat} {X:Nat→Nat→Rat} (q:Nat) (gs:List M4) (w:World) (hT:Tab w) (hm:ModR w M n wt D F C X) (hlow:∀ f,f∈F→f<C) (hC:C≤72) (hq0:0<q) (hq1:q≤12) (hmr:mr q q=gs) (hg0:0<gs.length) (hgs:gs.length≤4096) (hgi:∀ t,t<gs.length→GIn (gs.getD t (0,0,0,0))):
  Calls Tryz.prog 12 #[.pointer (some ⟨M,0,none⟩),.int .i64 q] w fun e w'=>OpRet F.length (hkM n wt D F C X gs) w' e∧Below w.heap.size w w':=by
 have HME:=Kh (fun W=>c_Merel q W hq0 hq1)
 rw[hmr]at HME
 have HAC:=Kh (fun W (hb:Below w.heap.size w W) v (hv:MatsIn W v gs)=>c_actA gs v W (hT.below hb) (hm.keep hb) hlow hC hv hgs hgi)
 clear hT hm hlow hgi hmr
 go_enter Tryz.func12,Tryz.ntmps12
 go_wp2_with fail
 obtain⟨w0,hw0,X0,hb0⟩:=bx1 w #[.int .i64 0,.int .i64 0,.slice none 0 0] 32
 rw[hw0]
 obtain⟨gr,hgr⟩:∃ x,w.heap.size=x:=⟨_,rfl⟩
 have HGE:=Kh (show w.heap.size≤gr from Nat.le_of_eq hgr)
 have HX0:=Kh (show Blk w0 gr 32 #[.int .i64 0,.int .i64 0,.slice none 0 0]from hgr▸X0)
 have HB0:=Kh hb0
 try rw[hgr]
 refine(HME.out w0).mono ?_
 rintro e w1 ⟨⟨v1,rfl,ho1⟩,hb1⟩
 have HX1:=Kh (bk HX0 hb1)
 have HB1:=bt HB0 hb1
 have HMI:=Kh (mats_own ho1 hg0)
 clear hw0 X0 hb0 hb1 HX0 HB0 hgr ho1 HME
 go_wp2_with fail
 refine(HAC.out w1 HB1.out v1 HMI.out).mono ?_
 rintro e w2 ⟨⟨p2,c2,rfl,hq2⟩,hb2⟩
 have HXR:=Kh (bk HX1 hb2)
 have HBR:=bt HB1 hb2
 have HQ2:=Kh hq2
 clear hb2 HX1 HB1 HMI HAC hq2
 have r0:=HXR.out.at_ 0 rfl
 have r1:=HXR.out.at_ 1 rfl
 have r2:=HXR.out.at_ 2 rfl
 have f0:=HXR.out.free_ 0
 have f1:=HXR.out.free_ 1
 have f2:=HXR.out.free_ 2
 have HE3:=Kh (put3_at (w:=w2) (R:=gr) (v0:=.int .i64 (F.length:Int)) (v1:=.int .i64 (F.length:Int)) (v2:=.slice p2 (F.length*F.length) c2) (by rw[r0];rfl) (by rw[r1];rfl) (by rw[r2];rfl))
 have HBS:=Kh (show Below w.heap.size w (((w2.setCell ⟨gr,0,none⟩ (.int .i64 (F.length:Int))).setCell ⟨gr,1,none⟩ (.int .i64 (F.length:Int))).setCell ⟨gr,2,none⟩ (.slice p2 (F.length*F.length) c2))from((HBR.out.setCell (p:=⟨gr,0,none⟩) HGE.out _).setCell (p:=⟨gr,1,none⟩) HGE.out _).setCell (p:=⟨gr,2,none⟩) HGE.out _)
 have hst:Stk NotU32 w2 gr:=Stk.of HXR.out (by intro v hv;simp at hv;rcases hv with rfl|rfl|rfl <;> exact fun _ h=>by cases h)
 have hnb:Stk (fun v=>∀ b,v≠.bool b) w2 gr:=Stk.of HXR.out (by intro v hv;simp at hv;rcases hv with rfl|rfl|rfl <;> exact fun _ h=>by cases h)
 have HQF:=Kh (HQ2.out.boxM hnb (put3_32 hst (v0:=.int .i64 (F.length:Int)) (v1:=.int .i64 (F.length:Int)) (v2:=.slice p2 (F.length*F.length) c2) (fun _ h=>by cases h) (fun _ h=>by cases h)) (((but_put w2 gr 0 (.int .i64 (F.length:Int))).trans (but_put _ gr 1 (.int .i64 (F.length:Int)))).trans (but_put _ gr 2 (.slice p2 (F.length*F.length) c2))))
 clear hst hnb
 go_wp2
 have e0:=HE3.out.1
 have e1:=HE3.out.2.1
 have e2:=HE3.out.2.2
 try simp only[Exit.inBlock,Exit.then]
 refine bodyPost_ret (by simp[results,Tryz.results12,go_sem,e0,e1,e2];try rfl) rfl ?_
 exact⟨⟨p2,c2,rfl,HQF.out⟩,HBS.out⟩
theorem c_Operator_bad (M:Nat) (q:Int) (w:World) (h:q<1∨128<q):
  Calls Tryz.prog 12 #[.pointer (some ⟨M,0,none⟩),.int .i64 q] w fun e w'=>e=.returned (.tuple #[.agg #[.int .i64 0,.int .i64 0,.slice none 0 0],.int .i64 2])∧Below w.heap.size w w':=by
 go_enter Tryz.func12,Tryz.ntmps12
 go_wp2_with fail
 obtain⟨w0,hw0,X0,hb0⟩:=bx1 w #[.int .i64 0,.int .i64 0,.slice none 0 0] 32
 rw[hw0]
 obtain⟨gr,hgr⟩:∃ x,w.heap.size=x:=⟨_,rfl⟩
 have HGE:=Kh (show w.heap.size≤gr from Nat.le_of_eq hgr)
 have HX0:=Kh (show Blk w0 gr 32 #[.int .i64 0,.int .i64 0,.slice none 0 0]from hgr▸X0)
 have HB0:=Kh hb0
 try rw[hgr]
 refine(c_Merel_bad q w0 h).mono ?_
 rintro e w1 ⟨rfl,hb1⟩
 have HXR:=Kh (bk HX0 hb1)
 have HBR:=bt HB0 hb1
 clear hw0 X0 hb0 hb1 HX0 HB0 hgr h
 have r0:=HXR.out.at_ 0 rfl
 have r1:=HXR.out.at_ 1 rfl
 have r2:=HXR.out.at_ 2 rfl
 have f0:=HXR.out.free_ 0
 have f1:=HXR.out.free_ 1
 have f2:=HXR.out.free_ 2
 have HE3:=Kh (put3_at (w:=w1) (R:=gr) (v0:=.int .i64 0) (v1:=.int .i64 0) (v2:=.slice none 0 0) (by rw[r0];rfl) (by rw[r1];rfl) (by rw[r2];rfl))
 have HBS:=Kh (show Below w.heap.size w (((w1.setCell ⟨gr,0,none⟩ (.int .i64 0)).setCell ⟨gr,1,none⟩ (.int .i64 0)).setCell ⟨gr,2,none⟩ (.slice none 0 0))from((HBR.out.setCell (p:=⟨gr,0,none⟩) HGE.out _).setCell (p:=⟨gr,1,none⟩) HGE.out _).setCell (p:=⟨gr,2,none⟩) HGE.out _)
 go_wp2
 have e0:=HE3.out.1
 have e1:=HE3.out.2.1
 have e2:=HE3.out.2.2
 try simp only[Exit.inBlock,Exit.then]
 refine bodyPost_ret (by simp[results,Tryz.results12,go_sem,e0,e1,e2];try rfl) rfl ?_
 exact⟨rfl,HBS.out⟩
theorem c_Operator_nil (q:Int) (w:World):
  Calls Tryz.prog 12 #[.pointer none,.int .i64 q] w fun e w'=>e=.returned (.tuple #[.agg #[.int .i64 0,.int .i64 0,.slice none 0 0],.int .i64 1])∧Below w.heap.size w w':=by
 go_enter Tryz.func12,Tryz.ntmps12
 go_wp2
 have X:=Blk.new w 32 #[.int .i64 0,.int .i64 0,.slice none 0 0]
 have e0:=X.at_ 0 rfl
 have e1:=X.at_ 1 rfl
 have e2:=X.at_ 2 rfl
 try simp only[Exit.inBlock,Exit.then]
 refine bodyPost_ret (by simp[results,Tryz.results12,go_sem,e0,e1,e2];try rfl) rfl ?_
 exact⟨rfl,(Below.refl _ _).alloc (Nat.le_refl _) _⟩
theorem c_By_nil (w:World):
  Calls Tryz.prog 16 #[.pointer none,.slice none 0 0] w fun e w'=>e=.returned (.tuple #[.agg #[.int .i64 0,.int .i64 0,.slice none 0 0],.int .i64 1])∧Below w.heap.size w w':=by
 go_enter Tryz.func16,Tryz.ntmps16
 go_wp2
 have X:=Blk.new w 32 #[.int .i64 0,.int .i64 0,.slice none 0 0]
 have e0:=X.at_ 0 rfl
 have e1:=X.at_ 1 rfl
 have e2:=X.at_ 2 rfl
 try simp only[Exit.inBlock,Exit.then]
 refine bodyPost_ret (by simp[results,Tryz.results16,go_sem,e0,e1,e2];try rfl) rfl ?_
 exact⟨rfl,(Below.refl _ _).alloc (Nat.le_refl _) _⟩
theorem c_On_err (pv:Value) (q er:Int) (w:World) (h0:er≠0) (h:∀ W,Calls Tryz.prog 12 #[pv,.int .i64 q] W fun e w'=>e=.returned (.tuple #[.agg #[.int .i64 0,.int .i64 0,.slice none 0 0],.int .i64 er])∧Below W.heap.size W w'):
  Calls Tryz.prog 15 #[pv,.int .i64 q,.agg #[.int .i64 0,.int .i64 0,.int .i64 0,.slice none 0 0]] w fun e w'=>e=.returned (.tuple #[.agg #[.int .i64 0,.int .i64 0,.slice none 0 0],.int .i64 er])∧Below w.heap.size w w':=by
 have hne:(er != 0)=true:=by rw[bne_iff_ne];exact h0
 go_enter Tryz.func15,Tryz.ntmps15
 go_wp2_with fail
 obtain⟨w0,hw0,_,X0,hb0⟩:=bx2 w #[.int .i64 0,.int .i64 0,.int .i64 0,.slice none 0 0] 39 #[.int .i64 0,.int .i64 0,.slice none 0 0] 32
 rw[hw0]
 obtain⟨gr,hgr⟩:∃ x,w.heap.size+1=x:=⟨_,rfl⟩
 have HGE:=Kh (show w.heap.size≤gr by omega)
 have HX0:=Kh (show Blk w0 gr 32 #[.int .i64 0,.int .i64 0,.slice none 0 0]from hgr▸X0)
 have HB0:=Kh hb0
 try rw[hgr]
 refine(h w0).mono ?_
 rintro e w1 ⟨rfl,hb1⟩
 clear hw0
 go_upto_if 17 with(fail)
 obtain⟨w2,hw2⟩:∃ w2,w1.alloc (.cells #[.int .i64 0,.int .i64 0,.slice none 0 0] 32)=w2:=⟨_,rfl⟩
 have hb2:Below w1.heap.size w1 w2:=hw2▸(Below.refl _ _).alloc (Nat.le_refl _) _
 have hb02:=hb1.trans (hb2.mono hb1.size)
 have HXR:=Kh (bk HX0 hb02)
 have HBR:=bt HB0 hb02
 rw[hw2]
 clear X0 hb0 hb1 HX0 HB0 hgr h hb2 hb02 hw2
 have r0:=HXR.out.at_ 0 rfl
 have r1:=HXR.out.at_ 1 rfl
 have r2:=HXR.out.at_ 2 rfl
 have f0:=HXR.out.free_ 0
 have f1:=HXR.out.free_ 1
 have f2:=HXR.out.free_ 2
 have HE3:=Kh (put3_at (w:=w2) (R:=gr) (v0:=.int .i64 0) (v1:=.int .i64 0) (v2:=.slice none 0 0) (by rw[r0];rfl) (by rw[r1];rfl) (by rw[r2];rfl))
 have HBS:=Kh (show Below w.heap.size w (((w2.setCell ⟨gr,0,none⟩ (.int .i64 0)).setCell ⟨gr,1,none⟩ (.int .i64 0)).setCell ⟨gr,2,none⟩ (.slice none 0 0))from((HBR.out.setCell (p:=⟨gr,0,none⟩) HGE.out _).setCell (p:=⟨gr,1,none⟩) HGE.out _).setCell (p:=⟨gr,2,none⟩) HGE.out _)
 go_wp2
 have e0:=HE3.out.1
 have e1:=HE3.out.2.1
 have e2:=HE3.out.2.2
 try simp only[Exit.inBlock,Exit.then]
 refine bodyPost_ret (by simp[results,Tryz.results15,go_sem,e0,e1,e2];try rfl) rfl ?_
 exact⟨rfl,HBS.out⟩
end Go.Proofs.YtenlbhlllgppmaaGreatDoor
