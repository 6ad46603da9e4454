/- A Spec that is refused: manin.Relations and symbols.New. -/
import Derived.Test.YthikonjlgljikaaGreatDoorV46
import Derived.Test.YthikonjlgljikaaGreatDoorV49
import Derived.Test.YthikonjlgljikaaGreatDoorV34
import Derived.Test.YthikonjlgljikaaGreatDoorV41
import Derived.Test.YthikonjlgljikaaGreatDoorV42
import Derived.Test.YthikonjlgljikaaGreatDoorV12
set_option linter.unusedSimpArgs false
set_option maxRecDepth 100000
set_option maxHeartbeats 8000000
namespace Go.Proofs.YthikonjlgljikaaGreatDoor
open Go.RowKit Eli
theorem c_Relations_bad (N k D:Int) (w:World) (hck:Pl.check N k D≠0):
  Calls Tryz.prog 33 #[.agg #[.int .i64 N,.int .i64 k,.int .i64 D]] w fun e w'=>e=.returned (.tuple #[.agg #[.int .i64 0,.int .i64 0,.slice none 0 0],.int .i64 (Pl.check N k D)])∧Below w.heap.size w w':=by
 have HEN:=Kh (fun W=>c_enter_bad N k D W hck)
 obtain⟨er,her⟩:∃ er,Pl.check N k D=er:=⟨_,rfl⟩
 rw[her]at hck HEN ⊢
 have hne:(er != 0)=true:=by simpa using hck
 clear her hck
 go_enter Tryz.func33,Tryz.ntmps33
 go_wp2_with fail
 obtain⟨w0,hw0,X0,X1,hb0⟩:=bx2 w #[.int .i64 N,.int .i64 k,.int .i64 D] 23 #[.int .i64 0,.int .i64 0,.slice none 0 0] 76
 rw[hw0]
 refine(HEN.out w0).mono ?_
 rintro e w1 ⟨rfl,hb1⟩
 have HX1:=Kh (X1.below_ hb1 X1.lt)
 have HB1:=Kh (hb0.trans (hb1.mono hb0.size))
 obtain⟨gr,hgr⟩:∃ x,w.heap.size+1=x:=⟨_,rfl⟩
 have HGR:=Kh hgr
 rw[hgr]at HX1 ⊢
 have r0:=HX1.out.at_ 0 rfl
 have r1:=HX1.out.at_ 1 rfl
 have r2:=HX1.out.at_ 2 rfl
 have f0:=HX1.out.free_ 0
 have f1:=HX1.out.free_ 1
 have f2:=HX1.out.free_ 2
 have HE3:=Kh (put3_at (w:=w1) (R:=gr) (v0:=.int .i64 0) (v1:=.int .i64 0) (v2:=.slice none 0 0) (by rw[r0];rfl) (by rw[r1];rfl) (by rw[r2];rfl))
 clear hw0 X0 X1 hb0 hb1 hgr HEN
 go_wp2
 have e0:=HE3.out.1
 have e1:=HE3.out.2.1
 have e2:=HE3.out.2.2
 try simp only[Exit.inBlock,Exit.then]
 refine bodyPost_ret (by simp[results,Tryz.results33,go_sem,e0,e1,e2];try rfl) rfl ?_
 exact⟨rfl,((HB1.out.setCell (p:=⟨gr,0,none⟩) (by have:=HGR.out;show w.heap.size≤gr;omega) _).setCell (p:=⟨gr,1,none⟩) (by have:=HGR.out;show w.heap.size≤gr;omega) _).setCell (p:=⟨gr,2,none⟩) (by have:=HGR.out;show w.heap.size≤gr;omega) _⟩
theorem c_New_check (N k D:Int) (w:World) (hck:Pl.check N k D≠0):
  Calls Tryz.prog 19 #[.agg #[.int .i64 N,.int .i64 k,.int .i64 D]] w fun e w'=>e=.returned (.tuple #[.pointer none,.int .i64 (Pl.check N k D)])∧Below w.heap.size w w':=
 c_New_bad N k D (Pl.check N k D) w (fun w1 _=>(c_Relations_bad N k D w1 hck).mono (fun _ _ h=>⟨⟨0,0,h.1⟩,h.2⟩)) hck
theorem c_Relations40_bad (N k D:Int) (w:World) (hck:Pl.check N k D≠0):
  Calls Tryz.prog 58 #[.agg #[.int .i64 N,.int .i64 k,.int .i64 D]] w fun e w'=>e=.returned (.tuple #[.agg #[.int .i64 0,.int .i64 0,.slice none 0 0],.int .i64 (Pl.check N k D)])∧Below w.heap.size w w':=by
 have HCT:=Kh (fun W=>c_Count40_bad N k D W hck)
 obtain⟨er,her⟩:∃ er,Pl.check N k D=er:=⟨_,rfl⟩
 rw[her]at hck HCT ⊢
 have hne:(er != 0)=true:=by simpa using hck
 have hnf:¬ er=0:=hck
 clear her
 go_enter Tryz.func58,Tryz.ntmps58
 go_wp2_with fail
 obtain⟨w0,hw0,X0,X1,hb0⟩:=bx2 w #[.int .i64 N,.int .i64 k,.int .i64 D] 23 #[.int .i64 0,.int .i64 0,.slice none 0 0] 76
 rw[hw0]
 refine(HCT.out w0).mono ?_
 rintro e w1 ⟨rfl,hb1⟩
 have X1b:=X1.below_ hb1 X1.lt
 have HB1:=Kh (hb0.trans (hb1.mono hb0.size))
 have HX1:=Kh X1b
 have r0:=X1b.at_ 0 rfl
 have f0:=X1b.free_ 0
 have r1:=X1b.at_ 1 rfl
 have f1:=X1b.free_ 1
 have r2:=X1b.at_ 2 rfl
 have f2:=X1b.free_ 2
 clear hw0 X0 X1 hb0 hb1 X1b
 go_wp2
 obtain⟨e0,e1,e2⟩:=put3_at (w:=w1) (R:=w.heap.size+1) (v0:=.int .i64 0) (v1:=.int .i64 0) (v2:=.slice none 0 0) (by rw[r0];rfl) (by rw[r1];rfl) (by rw[r2];rfl)
 try simp only[Exit.inBlock,Exit.then]
 refine bodyPost_ret (by simp[results,Tryz.results58,go_sem,e0,e1,e2];try rfl) rfl ?_
 exact⟨rfl,below_but HB1.out (((but_put w1 (w.heap.size+1) 0 _).trans (but_put _ _ 1 _)).trans (but_put _ _ 2 _)) HB1.out.size (by omega)⟩
theorem c_New41_bad (N k D:Int) (w:World) (hck:Pl.check N k D≠0):
  Calls Tryz.prog 20 #[.agg #[.int .i64 N,.int .i64 k,.int .i64 D]] w fun e w'=>e=.returned (.tuple #[.agg #[.int .i64 0,.int .i64 0,.int .i64 0,.int .i64 0,.slice none 0 0,.int .i64 0,.int .i64 0,.slice none 0 0],.int .i64 (Pl.check N k D)])∧Below w.heap.size w w':=by
 have HCT:=Kh (fun W=>c_Relations40_bad N k D W hck)
 obtain⟨er,her⟩:∃ er,Pl.check N k D=er:=⟨_,rfl⟩
 rw[her]at hck HCT ⊢
 have hne:(er != 0)=true:=by simpa using hck
 have hnf:¬ er=0:=hck
 clear her
 go_enter Tryz.func20,Tryz.ntmps20
 go_wp2_with fail
 obtain⟨w0,hw0,X0,X1,hb0⟩:=bx2 w #[.int .i64 N,.int .i64 k,.int .i64 D] 23 #[.int .i64 0,.int .i64 0,.int .i64 0,.int .i64 0,.slice none 0 0,.int .i64 0,.int .i64 0,.slice none 0 0] 53
 rw[hw0]
 refine(HCT.out w0).mono ?_
 rintro e w1 ⟨rfl,hb1⟩
 have hbz:=hb1
 go_upto_region 2 with(fail)
 obtain⟨w2,hw2,_,hb2⟩:=bx1 w1 #[.int .i64 0,.int .i64 0,.slice none 0 0] 76
 rw[hw2]
 have hb12:=hb1.trans (hb2.mono hb1.size)
 have X1b:=X1.below_ hb12 X1.lt
 have HB1:=Kh (hb0.trans (hb12.mono hb0.size))
 have r0:=X1b.at_ 0 rfl
 have f0:=X1b.free_ 0
 have r1:=X1b.at_ 1 rfl
 have f1:=X1b.free_ 1
 have r2:=X1b.at_ 2 rfl
 have f2:=X1b.free_ 2
 have r3:=X1b.at_ 3 rfl
 have f3:=X1b.free_ 3
 have r4:=X1b.at_ 4 rfl
 have f4:=X1b.free_ 4
 have r5:=X1b.at_ 5 rfl
 have f5:=X1b.free_ 5
 have r6:=X1b.at_ 6 rfl
 have f6:=X1b.free_ 6
 have r7:=X1b.at_ 7 rfl
 have f7:=X1b.free_ 7
 have HE8:=Kh (put8_at (w:=w2) (R:=w.heap.size+1) (v0:=.int .i64 0) (v1:=.int .i64 0) (v2:=.int .i64 0) (v3:=.int .i64 0) (v4:=.slice none 0 0) (v5:=.int .i64 0) (v6:=.int .i64 0) (v7:=.slice none 0 0) (fun i hi=>by
  match i,hi with
  | 0,_=>rw[r0];rfl
  | 1,_=>rw[r1];rfl
  | 2,_=>rw[r2];rfl
  | 3,_=>rw[r3];rfl
  | 4,_=>rw[r4];rfl
  | 5,_=>rw[r5];rfl
  | 6,_=>rw[r6];rfl
  | 7,_=>rw[r7];rfl
  |(i+8),h=>omega))
 clear hw0 X0 X1 hb0 hb1 hb2 hb12 hbz X1b hw2
 go_wp2
 obtain⟨e0,e1,e2,e3,e4,e5,e6,e7⟩:=HE8.out
 try simp only[Exit.inBlock,Exit.then]
 refine bodyPost_ret (by simp[results,Tryz.results20,go_sem,e0,e1,e2,e3,e4,e5,e6,e7];try rfl) rfl ?_
 exact⟨rfl,below_but HB1.out (put8_but (w:=w2) (R:=w.heap.size+1) (v0:=.int .i64 0) (v1:=.int .i64 0) (v2:=.int .i64 0) (v3:=.int .i64 0) (v4:=.slice none 0 0) (v5:=.int .i64 0) (v6:=.int .i64 0) (v7:=.slice none 0 0)) HB1.out.size (by omega)⟩
theorem c_New41_ok (n wt:Nat) (D:Int) (w:World) (hck:Pl.check n ((wt:Int)+2) D=0) (hC:cntF n wt≤72):
  Calls Tryz.prog 20 #[.agg #[.int .i64 n,.int .i64 ((wt:Int)+2),.int .i64 D]] w fun e w'=>NewRet n ((wt:Int)+2) D (cntF n wt) (frs (elF n wt D) (cntF n wt)) (crd (elF n wt D) (cntF n wt) (cntF n wt)) w.heap.size w' e∧Below w.heap.size w w':=by
 obtain⟨h1,h2,h3,h4,h5,h6⟩:=check_zero hck
 have hp:0<cntF n wt:=cntF_pos (by omega)
 exact c_New41 n ((wt:Int)+2) D (2*cntF n wt) (cntF n wt) (relF n wt D) w (fun w1 _=>c_Relations40 n wt D (pts n (n*n)) (cntF n wt) w1 hck rfl rfl hp hC) (by omega) (by omega) hp hC (relF_small (by omega))
def vecS (V:Nat→Rat) (X:Nat→Nat→Rat) (k f:Nat):Rat:=sumQ (fun n=>V n*X n f) k
theorem vecS_zero (V:Nat→Rat) (X:Nat→Nat→Rat) (f:Nat):vecS V X 0 f=0:=rfl
theorem vecS_succ (V:Nat→Rat) (X:Nat→Nat→Rat) (k f:Nat):vecS V X (k+1) f=vecS V X k f+V k*X k f:=rfl
theorem vecS_size {V:Nat→Rat} {X:Nat→Nat→Rat} {A B f:Nat}:∀ (k:Nat),(∀ j,j<k→hq (V j)≤A)→(∀ j,j<k→hq (X j f)≤B)→hq (vecS V X k f)≤1+k*(A+B+1)
 | 0,_,_=>by rw[vecS_zero,hq_zero];omega
 | k+1,h1,h2=>by
  rw[vecS_succ]
  have h3:=vecS_size k (fun j hj=>h1 j (by omega)) (fun j hj=>h2 j (by omega))
  have h4:=hq_add (vecS V X k f) (V k*X k f)
  have h5:=hq_mul (V k) (X k f)
  have h6:=h1 k (by omega)
  have h7:=h2 k (by omega)
  rw[Nat.add_mul,Nat.one_mul]
  omega
theorem c_Vector_shape (M B:Nat) (N k D:Int) (F:List Nat) (C:Nat) (X:Nat→Nat→Rat) (p:Option Addr) (n c:Nat) (w:World) (h:ModAt w M B N k D F C X) (hne:n≠C):
  Calls Tryz.prog 31 #[.pointer (some ⟨M,0,none⟩),.slice p n c] w fun e w'=>e=.returned (.tuple #[.slice none 0 0,.int .i64 4])∧w'=w:=by
 obtain⟨GR,c4,_,_⟩:=h.c4
 have hn2:((n:Int) !=(C:Int))=true:=by
  have:(n:Int)≠(C:Int):=by omega
  simpa using this
 clear h hne
 go_enter Tryz.func31,Tryz.ntmps31
 go_wp2
 all_goals (first|go_ret2|go_ret)
 all_goals exact⟨rfl,rfl⟩
theorem c_Vector (M B:Nat) (N kk D:Int) (F:List Nat) (C:Nat) (X:Nat→Nat→Rat) (v:Value) (V:Nat→Rat) (w:World) (h:ModAt w M B N kk D F C X) (hB:B≤w.heap.size) (hv:QL (fun j=>IsQ (V j)) w v C) (hC0:0<C) (hC:C≤1000) (hFl:F.length≤1000)
  (hV:∀ j,j<C→hq (V j)≤10000) (hX:∀ j f,j<C→f∈F→hq (X j f)≤10000):
  Calls Tryz.prog 31 #[.pointer (some ⟨M,0,none⟩),v] w fun e w'=>(∃ g,e=.returned (.tuple #[.slice (some ⟨g,0,none⟩) F.length F.length,.int .i64 0])∧w.heap.size≤g∧QRow (fun i=>IsQ (vecS V X C (F.getD i 0))) w' g F.length F.length)∧Below w.heap.size w w':=by
 obtain⟨gv,ov,cv,rfl,hgv,hve⟩:=hv.resolve_left (fun h=>by omega)
 obtain⟨vf,c3,h3⟩:=h.c3
 obtain⟨pf,cf,rfl⟩:=h3.val
 obtain⟨GR,c4,hGR,h4⟩:=h.c4
 have hML:M<w.heap.size:=Nat.lt_of_lt_of_le h.lt hB
 have hGRL:GR<w.heap.size:=Nat.lt_of_lt_of_le hGR hB
 have HMEM:=Kh (show ∀ i,i<F.length→F.getD i 0∈F from fun i hi=>by rw[List.getD_eq_getElem?_getD,List.getElem?_eq_getElem hi];exact List.getElem_mem hi)
 have HR4:=Kh (show ∀ j,j<C→∃ g,w.cell? ⟨GR,j,none⟩=some (.slice (some ⟨g,0,none⟩) F.length F.length)∧g<w.heap.size∧∀ i,i<F.length→QE (IsQ (X j (F.getD i 0))) w g (0+i*4)from fun j hj=>by
  obtain⟨g,e,hg,hq⟩:=h4 j hj
  exact⟨g,e,Nat.lt_of_lt_of_le hg hB,fun i hi=>by rw[Nat.zero_add];exact hq i _ (by rw[List.getD_eq_getElem?_getD,List.getElem?_eq_getElem hi];rfl)⟩)
 have HVE:=Kh hve
 have HV:=Kh hV
 have HX:=Kh hX
 have HC3:=Kh c3
 have HC4:=Kh c4
 have hmk:=makeQ F.length (by omega)
 clear hV hX hve h4 h3 h hv hGR
 go_enter Tryz.func31,Tryz.ntmps31
 go_wp2_with fail
 have hrm:=QRow.made (fun _=>IsQ 0) w F.length
 obtain⟨w0,hw0⟩:∃ w0,w.alloc (.cells (madeCells #[.bool false,.slice none 0 0,.bool false,.slice none 0 0] (F.length*4)) 35)=w0:=⟨_,rfl⟩
 have hb0:Below w.heap.size w w0:=hw0▸(Below.refl _ _).alloc (Nat.le_refl _) _
 rw[hw0]at hrm ⊢
 have HRM:=Kh hrm
 have HB0:=Kh hb0
 obtain⟨G,hG⟩:∃ G,w.heap.size=G:=⟨_,rfl⟩
 rw[hG]at HRM HB0 hML hGRL hgv ⊢
 have HGE:=Kh hG
 clear hrm hb0 hw0 hG hmk c3 c4
 go_loopw [28] (fun ii wr=>∃ k:Nat,k≤F.length∧ii=.int .i64 k∧QRow (fun _=>IsQ 0) wr G F.length k∧Below G w wr) (fun ii _=>F.length - (intOf ii).toNat)
 case atStart=>exact⟨0,Nat.zero_le _,rfl,HRM.out,HB0.out⟩
 case round=>
  obtain⟨k,hk,rfl,hrow,hb1⟩:=hrel
  obtain⟨w1,rfl⟩:∃ w1:World,w1=wr:=⟨_,rfl⟩
  have HROW:=Kh hrow
  have HB1:=Kh hb1
  clear hrow hb1 HRM HB0
  by_cases hlt:k<F.length
  ·have hki:(k:Int)<(F.length:Int):=by omega
   go_wp2_with fail
   refine(c_qOf 0 w1 (by omega) (by omega)).mono ?_
   rintro e w3 ⟨⟨s3,p3,n3,c3,t3,q3,m3,d3,rfl,hq3⟩,hb3⟩
   have hr3:=QRow.keep (fun _=>IsQ.solid _) HROW.out hb3
   have HQA:=Kh (QRow.set (k':=k+1) (fun _=>IsQ.solid _) hr3 k hlt (fun _=>IsQ 0) (IsQ.solid _) (fun i' h1 h2=>⟨by omega,rfl⟩) (show IsQ 0 w3 s3 p3 n3 c3 t3 q3 m3 d3 from hq3))
   have HB3:=Kh (HB1.out.trans (hb3.mono (Nat.le_of_lt HROW.out.sts.1)))
   obtain⟨u0,hu0⟩:=Option.isSome_iff_exists.1 (hr3.has (k*4) (by omega))
   obtain⟨u1,hu1⟩:=Option.isSome_iff_exists.1 (hr3.has (k*4+1) (by omega))
   obtain⟨u2,hu2⟩:=Option.isSome_iff_exists.1 (hr3.has (k*4+2) (by omega))
   obtain⟨u3,hu3⟩:=Option.isSome_iff_exists.1 (hr3.has (k*4+3) (by omega))
   have f0:=hr3.free (k*4) (by omega)
   have f1:=hr3.free (k*4+1) (by omega)
   have f2:=hr3.free (k*4+2) (by omega)
   have f3:=hr3.free (k*4+3) (by omega)
   clear hq3 hb3 hr3
   go_wp2
   go_roundw
   case rel=>exact⟨k+1,by omega,by go_num,HQA.out,below_put4g HB3.out⟩
   case measure=>simp[intOf];omega
  ·obtain rfl:F.length=k:=by omega
   have HROW0:=Kh (show QRow (fun i=>IsQ (vecS V X 0 (F.getD i 0))) w1 G F.length F.length from QRow.congr HROW.out (fun i _=>by rw[vecS_zero]))
   clear HROW
   go_wp2_with fail
   go_loopw [38] (fun ii wr=>∃ k:Nat,k≤C∧ii=.int .i64 k∧QRow (fun i=>IsQ (vecS V X k (F.getD i 0))) wr G F.length F.length∧Below G w wr) (fun ii _=>C - (intOf ii).toNat)
   case atStart=>exact⟨0,Nat.zero_le _,rfl,HROW0.out,HB1.out⟩
   case round=>
    obtain⟨k,hk,rfl,hrow,hb2⟩:=hrel
    obtain⟨w2,rfl⟩:∃ w2:World,w2=wr:=⟨_,rfl⟩
    have HROW:=Kh hrow
    have HB2:=Kh hb2
    clear hrow hb2 HROW0 HB1
    by_cases hkC:k<C
    ·have hki:(k:Int)<(C:Int):=by omega
     have hb2:=HB2.out
     rw[← HGE.out]at hb2
     obtain⟨s,p,n5,c5,t,q,m5,d5,a0,a1,a2,a3,hx⟩:=(HVE.out k hkC).keep (IsQ.solid _) hb2
     have HQ2:=Kh (show Qs w2 s p n5 c5 t q m5 d5 (V k)from hx)
     clear hx hb2
     go_wp2_with fail
     obtain⟨w3,hw3⟩:∃ w3,w2.alloc (.cells #[.bool s,.slice p n5 c5,.bool t,.slice q m5 d5] 35)=w3:=⟨_,rfl⟩
     have hb3:Below w2.heap.size w2 w3:=hw3▸(Below.refl _ _).alloc (Nat.le_refl _) _
     have X3:=hw3▸Blk.new w2 35 #[.bool s,.slice p n5 c5,.bool t,.slice q m5 d5]
     rw[hw3]
     obtain⟨gx,hgx⟩:∃ gx,w2.heap.size=gx:=⟨_,rfl⟩
     have HGX:=Kh (show gx≠G by have:=HROW.out.sts.1;omega)
     rw[hgx]at X3 ⊢
     refine(c_qSignQ s p n5 c5 t q m5 d5 (V k) w3 (HQ2.out.keep hb3) (by have:=HV.out k hkC;omega)).mono ?_
     rintro e w4 ⟨⟨sg,rfl,hsg⟩,hb4⟩
     have hb24:=hb3.trans (hb4.mono hb3.size)
     have HSG:=Kh hsg
     have HROW4:=Kh (QRow.keep (fun _=>IsQ.solid _) HROW.out hb24)
     have HB4:=Kh (HB2.out.trans (hb24.mono (Nat.le_of_lt HROW.out.sts.1)))
     have HX4:=Kh (X3.below_ hb4 X3.lt)
     have HQ4:=Kh (HQ2.out.keep hb24)
     clear hw3 hb3 X3 hgx hsg hb4 hb24 a0 a1 a2 a3 HROW HB2 HQ2
     by_cases hz:V k=0
     ·obtain rfl:sg=0:=HSG.out.2 hz
      have HSK:=Kh (show QRow (fun i=>IsQ (vecS V X (k+1) (F.getD i 0))) w4 G F.length F.length from QRow.congr HROW4.out (fun i _=>by rw[vecS_succ,hz,Rat.zero_mul,Rat.add_zero]))
      clear hz
      go_wp2
      go_roundw
      case rel=>exact⟨k+1,by omega,by go_num,HSK.out,HB4.out⟩
      case measure=>simp[intOf];omega
     ·have h0:(sg != 0)=true:=by
       have:sg≠0:=fun e=>hz (HSG.out.1 e)
       simpa using this
      obtain⟨gr,rr,hgr,hrq⟩:=HR4.out k hkC
      rw[HGE.out]at hgr
      have HRQ:=Kh (show ∀ W,Below G w W→∀ i,i<F.length→QE (IsQ (X k (F.getD i 0))) W gr (0+i*4)from fun W hb i hi=>(hrq i hi).keep (IsQ.solid _) (by rw[HGE.out];exact hb))
      have HGRN:=Kh (show gr<G from hgr)
      have m4:=(HB4.out.cell (p:=⟨M,4,none⟩) hML).trans HC4.out
      have r4:=(HB4.out.cell (p:=⟨GR,k,none⟩) hGRL).trans rr
      have b0:=HX4.out.at_ 0 rfl
      have b1:=HX4.out.at_ 1 rfl
      have b2:=HX4.out.at_ 2 rfl
      have b3:=HX4.out.at_ 3 rfl
      have HS1:=Kh (show ∀ w',Below w4.heap.size w4 w'→(w'.cell? ⟨gx,0,none⟩=some (.bool s)∧w'.cell? ⟨gx,1,none⟩=some (.slice p n5 c5)∧w'.cell? ⟨gx,2,none⟩=some (.bool t)∧w'.cell? ⟨gx,3,none⟩=some (.slice q m5 d5)∧w'.cell? ⟨M,4,none⟩=some (.slice (some ⟨GR,0,none⟩) C C)∧w'.cell? ⟨GR,k,none⟩=some (.slice (some ⟨gr,0,none⟩) F.length F.length))from fun w' hb=>⟨cell_next hb b0,cell_next hb b1,cell_next hb b2,cell_next hb b3,cell_next hb m4,cell_next hb r4⟩)
      have hS0:=HS1.out _ (Below.refl _ w4).drew
      have HNE:=Kh (show gx≠G∧M≠G∧GR≠G from⟨HGX.out,by omega,by omega⟩)
      have HSZ:=Kh (show ∀ f,f<F.length→hq (vecS V X k (F.getD f 0))≤100000000 from fun f hf=>by
       have h1:=vecS_size (f:=F.getD f 0) k (fun j hj=>HV.out j (by omega)) (fun j hj=>HX.out j _ (by omega) (HMEM.out f hf))
       have h2:k*(10000+10000+1)≤1000*(10000+10000+1):=Nat.mul_le_mul_right _ (by omega)
       omega)
      have HAD:=Kh (c_addTo G F.length F.length (.slice (some ⟨gr,0,none⟩) F.length F.length) (fun i=>vecS V X k (F.getD i 0)) (fun i=>X k (F.getD i 0)) s p n5 c5 t q m5 d5 (V k) w4.drew (HROW4.out.keep (fun _=>IsQ.solid _) (Below.refl _ w4).drew) (.inr ⟨gr,0,F.length,rfl,Nat.ne_of_lt HGRN.out,by have:=HROW4.out.sts.1;have:=HGRN.out;show gr<w4.heap.size;omega,fun f hf=>HRQ.out _ HB4.out.drew f hf⟩) (HQ4.out.keep (Below.refl _ w4).drew) (by have:=HV.out k hkC;omega) (fun f hf=>⟨HSZ.out f hf,by have:=HX.out k _ hkC (HMEM.out f hf);omega⟩) (by omega))
      have HK1:=Kh (show ∀ w',w4.drew.grownBy w' (some G)→Below G w w' from fun w' hg=>below_but HB4.out.drew hg (by have:=HROW4.out.sts.1;show G≤w4.heap.size;omega) (Nat.le_refl _))
      have HK2:=Kh (show ∀ w',w4.drew.grownBy w' (some G)→(w'.cell? ⟨gx,0,none⟩=some (.bool s)∧w'.cell? ⟨gx,1,none⟩=some (.slice p n5 c5)∧w'.cell? ⟨gx,2,none⟩=some (.bool t)∧w'.cell? ⟨gx,3,none⟩=some (.slice q m5 d5)∧w'.cell? ⟨M,4,none⟩=some (.slice (some ⟨GR,0,none⟩) C C)∧w'.cell? ⟨GR,k,none⟩=some (.slice (some ⟨gr,0,none⟩) F.length F.length))from fun w' hg=>⟨hg.cell hS0.1 (fun e=>HNE.out.1 (by injection e)),hg.cell hS0.2.1 (fun e=>HNE.out.1 (by injection e)),hg.cell hS0.2.2.1 (fun e=>HNE.out.1 (by injection e)),hg.cell hS0.2.2.2.1 (fun e=>HNE.out.1 (by injection e)),hg.cell hS0.2.2.2.2.1 (fun e=>HNE.out.2.1 (by injection e)),hg.cell hS0.2.2.2.2.2 (fun e=>HNE.out.2.2 (by injection e))⟩)
      clear hz hrq hgr m4 r4 rr b0 b1 b2 b3
      go_upto_region 15 with(fail)
      go_region_held3 (fun w'=>w'.cell? ⟨gx,0,none⟩=some (.bool s)∧w'.cell? ⟨gx,1,none⟩=some (.slice p n5 c5)∧w'.cell? ⟨gx,2,none⟩=some (.bool t)∧w'.cell? ⟨gx,3,none⟩=some (.slice q m5 d5)∧w'.cell? ⟨M,4,none⟩=some (.slice (some ⟨GR,0,none⟩) C C)∧w'.cell? ⟨GR,k,none⟩=some (.slice (some ⟨gr,0,none⟩) F.length F.length))
       (first|with_reducible exact hS0|with_reducible exact HSA.out |(exfalso;assumption))
       (first
        |(go_at_call 56;(with_reducible refine HAD.out.mono ?_);rintro e w10 ⟨⟨va,rfl⟩,hrow10,hg10,_⟩;have HR10:=Kh hrow10;have HB10:=Kh (HK1.out _ hg10);have HSA:=Kh (HK2.out _ hg10);clear hrow10 hg10))
      all_goals go_wp2
      all_goals go_roundw
      all_goals first
       | exact⟨k+1,by omega,by go_num,QRow.congr HR10.out (fun f hf=>by rw[vecS_succ]),HB10.out⟩
       |(simp[intOf];omega)
    ·obtain rfl:C=k:=by omega
     have hE:=HGE.out
     go_wp2
     (first|go_ret2|go_ret)
     exact⟨⟨G,rfl,Nat.le_of_eq hE,HROW.out⟩,hE▸HB2.out⟩
theorem OwnQ.caps {F:Nat→FP} {w:World} {B n g cap:Nat} (h:OwnQ F w B (.slice (some ⟨g,0,none⟩) n cap) n):n≤cap∧cap≤9223372036854775807:=by
 obtain⟨xs,h1,_⟩:=h
 rcases h1.1.2 with⟨e,_⟩ |⟨g',cap',cs,e,_,_,hn,hcm,_⟩
 ·cases e
 ·cases e
  exact⟨hn,by simp only[maxLen]at hcm;omega⟩
def RedV (FL gA n:Nat) (v:Value):Prop:=(FL=0∧∃ p c,v=.slice p 0 c)∨∃ c,v=.slice (some ⟨gA,n*FL*4,none⟩) FL c
theorem RedV.val {FL gA n:Nat} {v:Value} (h:RedV FL gA n v):∃ p c,v=.slice p FL c:=by
 rcases h with⟨rfl,p,c,rfl⟩ |⟨c,rfl⟩
 ·exact⟨_,_,rfl⟩
 ·exact⟨_,_,rfl⟩
theorem c_RReduce (N k D:Int) (C FL CF:Nat) (pF pA:Option Addr) (cF cA gA n:Nat) (w:World) (hA:FL=0∨pA=some ⟨gA,0,none⟩) (hn:n<C) (hCF:C*FL=CF) (hcA:CF≤cA) (_hcA2:cA≤9223372036854775807) (hC:C≤72) (hFL:FL≤72):
  Calls Tryz.prog 22 #[.agg #[.int .i64 N,.int .i64 k,.int .i64 D,.int .i64 C,.slice pF FL cF,.int .i64 C,.int .i64 FL,.slice pA CF cA],.int .i64 n] w fun e w'=>(∃ v,e=.returned (.tuple #[v,.int .i64 0])∧RedV FL gA n v)∧Below w.heap.size w w':=by
 have hb:=(Below.refl w.heap.size w).alloc (Nat.le_refl _) (.cells #[.int .i64 N,.int .i64 k,.int .i64 D,.int .i64 C,.slice pF FL cF,.int .i64 C,.int .i64 FL,.slice pA CF cA] 53)
 obtain⟨nF,hnF⟩:∃ y,n*FL=y:=⟨_,rfl⟩
 have e1:(n:Int)*(FL:Int)=(nF:Nat):=by rw[← hnF];push_cast;rfl
 have e2:((n:Int)+1)*(FL:Int)=((nF+FL:Nat)):=by rw[Int.add_mul,e1];push_cast;omega
 have hk1:nF+FL≤CF:=by
  have h1:=Nat.mul_le_mul_right FL (show n+1≤C by omega)
  rw[Nat.succ_mul]at h1
  omega
 have hCF2:CF≤72*72:=by rw[← hCF];exact Nat.mul_le_mul hC hFL
 have h0:¬ (n:Int)<0:=by omega
 have h1:(n:Int)<(C:Int):=by omega
 have HNF:=Kh hnF
 clear hCF hnF
 rcases Nat.eq_zero_or_pos FL with hz|hpos
 ·obtain⟨hz2,hz3⟩:0≤nF∧0≤FL:=⟨by omega,by omega⟩
  have HZ:=Kh hz
  obtain rfl:nF=0:=by rw[← HNF.out,hz,Nat.mul_zero]
  subst hz
  clear hA
  go_enter Tryz.func22,Tryz.ntmps22
  go_wp2
  all_goals (first|go_ret2|go_ret)
  all_goals exact⟨⟨_,rfl,.inl ⟨rfl,_,_,rfl⟩⟩,hb⟩
 ·obtain rfl:=hA.resolve_left (by omega)
  have hcz:¬ (cA - nF=0):=by omega
  clear hA
  go_enter Tryz.func22,Tryz.ntmps22
  go_wp2
  all_goals (first|go_ret2|go_ret)
  all_goals try rw[show nF+FL - nF=FL by omega]
  all_goals exact⟨⟨_,rfl,.inr ⟨_,by rw[HNF.out];first|rfl|simp⟩⟩,hb⟩
theorem c_RVector_shape (N k D:Int) (C FL CF:Nat) (pF pA:Option Addr) (cF cA:Nat) (p:Option Addr) (m c:Nat) (w:World) (hne:m≠C):
  Calls Tryz.prog 32 #[.agg #[.int .i64 N,.int .i64 k,.int .i64 D,.int .i64 C,.slice pF FL cF,.int .i64 C,.int .i64 FL,.slice pA CF cA],.slice p m c] w fun e w'=>e=.returned (.tuple #[.slice none 0 0,.int .i64 4])∧Below w.heap.size w w':=by
 have hb:=(Below.refl w.heap.size w).alloc (Nat.le_refl _) (.cells #[.int .i64 N,.int .i64 k,.int .i64 D,.int .i64 C,.slice pF FL cF,.int .i64 C,.int .i64 FL,.slice pA CF cA] 53)
 have hn2:((m:Int) !=(C:Int))=true:=by
  have:(m:Int)≠(C:Int):=by omega
  simpa using this
 clear hne
 go_enter Tryz.func32,Tryz.ntmps32
 go_wp2
 all_goals (first|go_ret2|go_ret)
 all_goals exact⟨rfl,hb⟩
theorem c_RVector (N k D:Int) (C FL CF:Nat) (pF pA:Option Addr) (cF cA gA:Nat) (f:Nat→Rat) (v:Value) (V:Nat→Rat) (w:World) (hA:FL=0∨pA=some ⟨gA,0,none⟩) (hgA:FL=0∨gA<w.heap.size) (hf:∀ j,j<CF→QE (IsQ (f j)) w gA (j*4)) (hv:QL (fun j=>IsQ (V j)) w v C) (hC0:0<C) (hCF:C*FL=CF) (hcA:CF≤cA) (hcA2:cA≤9223372036854775807) (hC:C≤72) (hFL:FL≤72)
  (hV:∀ j,j<C→hq (V j)≤10000) (hX:∀ j,j<CF→hq (f j)≤10000):
  Calls Tryz.prog 32 #[.agg #[.int .i64 N,.int .i64 k,.int .i64 D,.int .i64 C,.slice pF FL cF,.int .i64 C,.int .i64 FL,.slice pA CF cA],v] w fun e w'=>(∃ vo,e=.returned (.tuple #[vo,.int .i64 0])∧QL (fun i=>IsQ (vecS V (fun a b=>f (a*FL+b)) C i)) w' vo FL)∧Below w.heap.size w w':=by
 obtain⟨gv,ov,cv,rfl,hgv,hve⟩:=hv.resolve_left (fun h=>by omega)
 have HA:=Kh hA
 have HGA:=Kh hgA
 have HFE:=Kh hf
 have HVE:=Kh hve
 have HV:=Kh hV
 have HX:=Kh hX
 have HCF:=Kh hCF
 have HRE:=Kh (fun W (n:Nat) (hn:n<C)=>c_RReduce N k D C FL CF pF pA cF cA gA n W hA hn hCF hcA hcA2 hC hFL)
 have HSZ:=Kh (show ∀ n j,n≤C→j<FL→hq (vecS V (fun a b=>f (a*FL+b)) n j)≤100000000 from fun n j hn hj=>by
  have h1:=vecS_size (V:=V) (X:=fun a b=>f (a*FL+b)) (f:=j) (A:=10000) (B:=10000) n (fun j' hj'=>hV j' (by omega)) (fun j' hj'=>hX _ (by
   have h1:=Nat.mul_le_mul_right FL (show j'+1≤C by omega)
   rw[Nat.succ_mul]at h1
   omega))
  have h2:n*(10000+10000+1)≤72*(10000+10000+1):=Nat.mul_le_mul_right _ (by omega)
  omega)
 clear hA hf hve hV hX hCF hv hgA
 go_enter Tryz.func32,Tryz.ntmps32
 go_wp2_with fail
 obtain⟨w0,hw0,X0,hb0⟩:=bx1 w #[.int .i64 N,.int .i64 k,.int .i64 D,.int .i64 C,.slice pF FL cF,.int .i64 C,.int .i64 FL,.slice pA CF cA] 53
 rw[hw0]
 obtain⟨gm,hgm⟩:∃ gm,w.heap.size=gm:=⟨_,rfl⟩
 rw[hgm]at X0 ⊢
 have HGM:=Kh hgm
 refine(c_Zeros FL w0 (by omega)).mono ?_
 rintro e w1 ⟨⟨vo,rfl,ho⟩,hb1⟩
 obtain⟨g,hgB,hog⟩:∃ g,w0.heap.size≤g∧(FL=0∨∃ c,vo=.slice (some ⟨g,0,none⟩) FL c∧QRow (fun _=>IsQ 0) w1 g FL FL):=by
  rcases ho.row with⟨h1,_⟩ |⟨g,cap,h1,h2,h3⟩
  ·exact⟨_,Nat.le_refl _,.inl h1⟩
  ·exact⟨g,h2,.inr ⟨cap,h1,h3⟩⟩
 obtain⟨po,co,rfl⟩:=ql_value ho.ql
 have HPO:=Kh (show FL=0∨po=some ⟨g,0,none⟩from hog.imp id (fun⟨c,h1,_⟩=>by injection h1))
 have HRO:=Kh (show FL=0∨QRow (fun i=>IsQ (vecS V (fun a b=>f (a*FL+b)) 0 i)) w1 g FL FL from hog.imp id (fun⟨c,_,h1⟩=>QRow.congr h1 (fun i _=>by rw[vecS_zero])))
 obtain⟨B0,hB0⟩:∃ B,w0.heap.size=B:=⟨_,rfl⟩
 rw[hB0]at hb1 hgB
 have HB0:=Kh hB0
 have HB1:=Kh hb1
 have HGG:=Kh hgB
 have HX0:=Kh X0
 have HW0:=Kh hb0
 clear hw0 hgm ho hog hb0 hb1 hgB hB0 X0
 have hX1:=HX0.out.below_ (HB0.out.symm▸HB1.out:Below w0.heap.size w0 w1) HX0.out.lt
 go_wp2_with fail
 go_loopw [7] (fun ii wr=>∃ n:Nat,n≤C∧ii=.int .i64 n∧(FL=0∨QRow (fun i=>IsQ (vecS V (fun a b=>f (a*FL+b)) n i)) wr g FL FL)∧Below B0 w0 wr) (fun ii _=>C - (intOf ii).toNat)
 case atStart=>exact⟨0,Nat.zero_le _,rfl,HRO.out,HB1.out⟩
 case round=>
  obtain⟨n,hn,rfl,hrow,hb2⟩:=hrel
  obtain⟨wm,rfl⟩:∃ wm:World,wm=wr:=⟨_,rfl⟩
  have HROW:=Kh hrow
  have HB2:=Kh hb2
  clear hrow hb2 HRO HB1 hX1
  by_cases hnC:n<C
  ·have hki:(n:Int)<(C:Int):=by omega
   obtain⟨s,p,i1,c,t,q,m,d,a0,a1,a2,a3,hx⟩:=((HVE.out n hnC).keep (IsQ.solid _) HW0.out).keep (IsQ.solid _) (HB0.out.symm▸HB2.out:Below w0.heap.size w0 wm)
   have HQ2:=Kh (show Qs wm s p i1 c t q m d (V n)from hx)
   have HXM:=Kh (HX0.out.below_ (HB0.out.symm▸HB2.out:Below w0.heap.size w0 wm) HX0.out.lt)
   have HBS:=Kh (show B0≤wm.heap.size from HB0.out▸HB2.out.size)
   clear hx
   go_wp2_with fail
   refine(c_sSignQ s p i1 c t q m d (V n) wm HQ2.out (by have:=HV.out n hnC;omega)).mono ?_
   rintro e w3 ⟨⟨sg,rfl,hsg⟩,hb3⟩
   have HSG:=Kh hsg
   have HROW3:=Kh (HROW.out.imp id (fun h=>QRow.keep (fun _=>IsQ.solid _) h hb3))
   have HB3:=Kh (HB2.out.trans (hb3.mono HBS.out))
   have HX3:=Kh (bk HXM hb3)
   have HQ3:=Kh (HQ2.out.keep hb3)
   have HBS3:=Kh (Nat.le_trans HBS.out hb3.size)
   have HA3:=Kh (show Cells4 w3 gv (ov+n*4) s p i1 c t q m d from Cells4.keep ⟨a0,a1,a2,a3⟩ hb3)
   clear hsg hb3 a0 a1 a2 a3 HROW HB2 HQ2 HXM HBS
   by_cases hz:V n=0
   ·obtain rfl:sg=0:=HSG.out.2 hz
    have HSK:=Kh (show FL=0∨QRow (fun i=>IsQ (vecS V (fun a b=>f (a*FL+b)) (n+1) i)) w3 g FL FL from HROW3.out.imp id (fun h=>QRow.congr h (fun i _=>by rw[vecS_succ,hz,Rat.zero_mul,Rat.add_zero])))
    clear hz
    go_wp2
    go_roundw
    case rel=>exact⟨n+1,by omega,by go_num,HSK.out,HB3.out⟩
    case measure=>simp[intOf];omega
   ·have h0:(sg != 0)=true:=by
     have:sg≠0:=fun e=>hz (HSG.out.1 e)
     simpa using this
    have h00:(sg==0)=false:=by
     have:sg≠0:=fun e=>hz (HSG.out.1 e)
     simpa using this
    have z0:=HX3.out.at_ 0 rfl
    have z1:=HX3.out.at_ 1 rfl
    have z2:=HX3.out.at_ 2 rfl
    have z3:=HX3.out.at_ 3 rfl
    have z4:=HX3.out.at_ 4 rfl
    have z5:=HX3.out.at_ 5 rfl
    have z6:=HX3.out.at_ 6 rfl
    have z7:=HX3.out.at_ 7 rfl
    clear hz
    go_wp2_with fail
    refine(HRE.out w3 n hnC).mono ?_
    rintro e w4 ⟨⟨vx,rfl,hrv⟩,hb4⟩
    obtain⟨px,cx,rfl⟩:=hrv.val
    obtain⟨nF,hnF⟩:∃ y,n*FL=y:=⟨_,rfl⟩
    have HNF:=Kh hnF
    obtain⟨oX,hoX⟩:∃ y,nF*4=y:=⟨_,rfl⟩
    have HOX:=Kh hoX
    have HRV:=Kh (show FL=0∨px=some ⟨gA,oX,none⟩from hrv.imp (fun h=>h.1) (fun⟨c,h⟩=>by rw[hnF,hoX]at h;injection h))
    have HROW4:=Kh (show FL=0∨QRow (addQ (vecS V (fun a b=>f (a*FL+b)) n) (fun i=>f (nF+i)) (V n) 0) w4 g FL FL from HROW3.out.imp id (fun h=>QRow.congr (QRow.keep (fun _=>IsQ.solid _) h hb4) (fun j _=>by unfold addQ;rw[if_neg (Nat.not_lt_zero j)])))
    have HB4:=Kh (HB3.out.trans (hb4.mono HBS3.out))
    have HBS4:=Kh (Nat.le_trans HBS3.out hb4.size)
    have HQ4:=Kh (HQ3.out.keep hb4)
    have HA4:=Kh (HA3.out.keep hb4)
    have HK4:=Kh (show nF+FL≤CF by
     have h1:=Nat.mul_le_mul_right FL (show n+1≤C by omega)
     rw[Nat.succ_mul,HCF.out,hnF]at h1
     exact h1)
    clear hb4 hrv hnF hoX HROW3 HB3 HQ3 HA3 HX3 HBS3 z0 z1 z2 z3 z4 z5 z6 z7
    go_wp2_with fail
    go_loopw [10] (fun jj wr=>∃ j:Nat,j≤FL∧jj=.int .i64 j∧(FL=0∨QRow (addQ (vecS V (fun a b=>f (a*FL+b)) n) (fun i=>f (nF+i)) (V n) j) wr g FL FL)∧Below B0 w0 wr) (fun jj _=>FL - (intOf jj).toNat)
    case atStart=>exact⟨0,Nat.zero_le _,rfl,HROW4.out,HB4.out⟩
    case round=>
     obtain⟨j,hj,rfl,hrow,hb5⟩:=hrel
     obtain⟨we,rfl⟩:∃ we:World,we=wr:=⟨_,rfl⟩
     have HB2:=Kh hb5
     have HBS:=Kh (show B0≤we.heap.size from HB0.out▸hb5.size)
     by_cases hlt:j<FL
     ·have hji:(j:Int)<(FL:Int):=by omega
      have HROW2:=Kh (hrow.resolve_left (by omega))
      obtain rfl:=HPO.out.resolve_left (by omega)
      obtain rfl:=HRV.out.resolve_left (by omega)
      have hgA:=HGA.out.resolve_left (by omega)
      have hw0e:Below w.heap.size w we:=HW0.out.trans (hb5.mono (by rw[← HB0.out];exact HW0.out.size))
      obtain⟨s,p,i1,c,t,q,m,d,a0,a1,a2,a3,hx⟩:=(HVE.out n hnC).keep (IsQ.solid _) hw0e
      have HQ2:=Kh (show Qs we s p i1 c t q m d (V n)from hx)
      obtain⟨s',p',i2,c',t',q',m',d',b0,b1,b2,b3,hx'⟩:=(HFE.out (nF+j) (by have:=HK4.out;omega)).keep (IsQ.solid _) hw0e
      rw[show(nF+j)*4=oX+j*4 by have:=HOX.out;omega]at b0 b1 b2 b3
      have HP2:=Kh (show Qs we s' p' i2 c' t' q' m' d' (f (nF+j))from hx')
      obtain⟨s5,p5,n5,c5,t5,q5,m5,d5,e0,e1,e2,e3,hy⟩:=addQ.elem HROW2.out hlt
      have HF5:=Kh (show Qs we s5 p5 n5 c5 t5 q5 m5 d5 (vecS V (fun a b=>f (a*FL+b)) n j)from hy)
      have HVN:=Kh (HV.out n hnC)
      have HFN:=Kh (HX.out (nF+j) (by have:=HK4.out;omega))
      have HSF:=Kh (HSZ.out n j hn hlt)
      have HSM:=Kh (show hq (V n*f (nF+j))≤200000000 by
       have h1:=hq_mul (V n) (f (nF+j))
       have h2:=HVN.out
       have h3:=HFN.out
       omega)
      have HM1:=Kh (fun w1 (hb:Below we.heap.size we w1)=>c_sMulQ2 s p i1 c t q m d (V n) s' p' i2 c' t' q' m' d' (f (nF+j)) w1 (HQ2.out.keep hb) (HP2.out.keep hb) (by have:=HVN.out;omega) (by have:=HFN.out;omega))
      have hra:=HROW2.out
      have hn1:gA≠g:=by
       have h1:=HGG.out
       have h2:=HW0.out.size
       have h3:=HB0.out
       omega
      have hn2:gv≠g:=by
       have h1:=HGG.out
       have h2:=HW0.out.size
       have h3:=HB0.out
       omega
      have hn3:g<we.heap.size:=hra.sts.1
      clear hy hx hx' hb5 hrow hw0e
      go_upto_region 12 with(fail)
      refine rgB (fun W=>W.cell? ⟨gv,ov+n*4,none⟩=some (.bool s)∧W.cell? ⟨gv,ov+n*4+1,none⟩=some (.slice p i1 c)∧W.cell? ⟨gv,ov+n*4+2,none⟩=some (.bool t)∧W.cell? ⟨gv,ov+n*4+3,none⟩=some (.slice q m d)∧W.cell? ⟨gA,oX+j*4,none⟩=some (.bool s')∧W.cell? ⟨gA,oX+j*4+1,none⟩=some (.slice p' i2 c')∧W.cell? ⟨gA,oX+j*4+2,none⟩=some (.bool t')∧W.cell? ⟨gA,oX+j*4+3,none⟩=some (.slice q' m' d')∧W.cell? ⟨g,j*4,none⟩=some (.bool s5)∧W.frozen? ⟨g,j*4,none⟩=false∧W.cell? ⟨g,j*4+1,none⟩=some (.slice p5 n5 c5)∧W.frozen? ⟨g,j*4+1,none⟩=false∧W.cell? ⟨g,j*4+2,none⟩=some (.bool t5)∧W.frozen? ⟨g,j*4+2,none⟩=false∧W.cell? ⟨g,j*4+3,none⟩=some (.slice q5 m5 d5)∧W.frozen? ⟨g,j*4+3,none⟩=false) (fun W hb=>⟨cnx hb a0,cnx hb a1,cnx hb a2,cnx hb a3,cnx hb b0,cnx hb b1,cnx hb b2,cnx hb b3,cnx hb e0,frozen_keep hb (by rw[e0];rfl) (hra.free _ (by omega)),cnx hb e1,frozen_keep hb (by rw[e1];rfl) (hra.free _ (by omega)),cnx hb e2,frozen_keep hb (by rw[e2];rfl) (hra.free _ (by omega)),cnx hb e3,frozen_keep hb (by rw[e3];rfl) (hra.free _ (by omega))⟩) (fun HSE hHeld0=>?_)
      clear a0 a1 a2 a3 b0 b1 b2 b3 e0 e1 e2 e3 hra
      refine tkE 0 ?_;refine tkE 1 ?_;refine tkE 2 ?_;refine tkE 3 ?_;refine tkE 4 ?_;refine tkE 5 ?_;refine tkE 6 ?_;refine tkE 7 ?_;refine tkE 8 ?_;refine tkE 9 ?_;refine tkE 10 ?_;refine tkE 11 ?_;refine tkE 12 ?_;refine tkE 13 ?_
      refine stE 14 rfl (fun K hK=>?_)
      focus(go_simp;refine(HM1.out _ (Below.refl _ we).drew).mono ?_;rintro e w2 ⟨⟨s3,p3,n3,c3,t3,q3,m3,d3,rfl,hz3⟩,hb3⟩;have HB3:=Kh ((Below.refl _ we).drew.trans hb3:Below we.heap.size we w2);have HZ3:=Kh hz3;clear hz3 hb3;(first|with_reducible refine hK.out _ _ ?_ (fun hHeld1=>?_) |(go_wp2_with fail;with_reducible refine hK.out _ _ ?_ (fun hHeld1=>?_))))
      focus((try dsimp only);exact HSE.out _ HB3.out)
      focus(clear hK K;(try simp only[Act.put,lsa,lsz,lss]))
      refine stE 15 rfl (fun K hK=>?_)
      focus(go_simp;refine(c_sAdd s5 p5 n5 c5 t5 q5 m5 d5 (vecS V (fun a b=>f (a*FL+b)) n j) s3 p3 n3 c3 t3 q3 m3 d3 (V n*f (nF+j)) _ (HF5.out.keep HB3.out) HZ3.out (by have:=HSF.out;omega) (by have:=HSM.out;omega)).mono ?_;rintro e w4 ⟨⟨s6,p6,n6,c6,t6,q6,m6,d6,rfl,hz6⟩,hb6⟩;have HBE:=bt HB3 hb6;have hrr:=QRow.keep (fun j'=>(IsQ.solid _:Solid (addQ (vecS V (fun a b=>f (a*FL+b)) n) (fun i=>f (nF+i)) (V n) j j'))) HROW2.out HBE.out;have HPUT:=Kh (addQ.put hrr hlt hz6);have HG4:=Kh (show ∀ v0 v1 v2 v3,Below B0 w0 ((((w4.setCell ⟨g,j*4,none⟩ v0).setCell ⟨g,j*4+1,none⟩ v1).setCell ⟨g,j*4+2,none⟩ v2).setCell ⟨g,j*4+3,none⟩ v3)from fun v0 v1 v2 v3=>below_but (HB2.out.trans (HBE.out.mono HBS.out)) (but_put4 w4 g _ _ _ _ v0 v1 v2 v3) (Nat.le_trans HBS.out HBE.out.size) HGG.out);clear hz6 hb6 hrr;(first|with_reducible refine hK.out _ _ ?_ (fun hHeld2=>?_) |(go_wp2_with fail;with_reducible refine hK.out _ _ ?_ (fun hHeld2=>?_))))
      focus((try dsimp only);exact HSE.out _ HBE.out)
      focus(clear hK K;(try simp only[Act.put,lsa,lsz,lss]))
      refine tkE 16 ?_
      refine laE 17 rfl (fun K hK=>?_)
      go_simp
      refine hK.out _ _ ?_
      clear hK K
      (try simp only[Act.put,lsa,lsz,lss])
      all_goals clear HROW2
      all_goals go_wp2
      all_goals go_roundw
      all_goals first
       | exact⟨j+1,by omega,by go_num,.inr HPUT.out,HG4.out _ _ _ _⟩
       |(simp[intOf];omega)
     ·obtain rfl:FL=j:=by omega
      have HSK:=Kh (show FL=0∨QRow (fun i=>IsQ (vecS V (fun a b=>f (a*FL+b)) (n+1) i)) we g FL FL from hrow.imp id (fun h=>QRow.congr h (fun i hi=>by unfold addQ;rw[if_pos hi,vecS_succ,HNF.out])))
      clear hrow hb5
      go_wp2
      go_roundw
      case rel=>exact⟨n+1,by omega,by go_num,HSK.out,HB2.out⟩
      case measure=>simp[intOf];omega
  ·obtain rfl:C=n:=by omega
   go_wp2
   (first|go_ret2|go_ret)
   refine⟨⟨_,rfl,?_⟩,HW0.out.trans (HB2.out.mono (by rw[← HB0.out];exact HW0.out.size))⟩
   rcases HROW.out with h|h
   ·subst h
    exact .inl ⟨rfl,_,_,rfl⟩
   ·rcases HPO.out with h1|h1
    ·subst h1
     exact .inl ⟨rfl,_,_,rfl⟩
    ·subst h1
     exact h.ql _
theorem QL.congr {F G:Nat→FP} {w:World} {v:Value} {n:Nat} (h:QL F w v n) (e:∀ j,j<n→F j=G j):QL G w v n:=by
 rcases h with h |⟨g,o,c,h1,h2,h3⟩
 ·exact .inl h
 ·exact .inr ⟨g,o,c,h1,h2,fun j hj=>by rw[← e j hj];exact h3 j hj⟩
theorem dm_of {FL b:Nat} (a:Nat) (hb:b<FL):(a*FL+b) / FL=a∧(a*FL+b) % FL=b:=by
 rw[Nat.mul_comm a FL]
 exact⟨by rw[Nat.mul_add_div (by omega),Nat.div_eq_of_lt hb,Nat.add_zero],by rw[Nat.mul_add_mod,Nat.mod_eq_of_lt hb]⟩
theorem OwnQ.parts {F:Nat→FP} {w:World} {B n:Nat} {p:Option Addr} {c:Nat} (h:OwnQ F w B (.slice p n c) n):∃ g,(n=0∨(p=some ⟨g,0,none⟩∧g<w.heap.size))∧(∀ j,j<n→QE (F j) w g (j*4))∧n≤c∧c≤9223372036854775807:=by
 rcases h.row with⟨h1,h2⟩ |⟨g,cap,h1,h2,h3⟩
 ·injection h2 with e1 e2 e3
  subst e3
  exact⟨0,.inl h1,fun j hj=>by omega,by omega,by omega⟩
 ·injection h1 with e1 e2 e3
  subst e1 e3
  have h4:=h.caps
  exact⟨g,.inr ⟨rfl,h3.sts.1⟩,h3.val,h4.1,h4.2⟩
theorem RedV.ql {FL gA n CF:Nat} {v:Value} {f:Nat→Rat} {w:World} (h:RedV FL gA n v) (hg:FL=0∨gA<w.heap.size) (hf:∀ j,j<CF→QE (IsQ (f j)) w gA (j*4)) (hn:n*FL+FL≤CF):QL (fun i=>IsQ (f (n*FL+i))) w v FL:=by
 rcases h with⟨rfl,p,c,rfl⟩ |⟨c,rfl⟩
 ·exact .inl ⟨rfl,_,_,rfl⟩
 ·rcases hg with rfl|hg
  ·exact .inl ⟨rfl,_,_,rfl⟩
  ·exact .inr ⟨gA,n*FL*4,c,rfl,hg,fun j hj=>by
    have h1:=hf (n*FL+j) (by omega)
    rw[Nat.add_mul]at h1
    exact h1⟩
theorem vecS_congr {V:Nat→Rat} {X Y:Nat→Nat→Rat} {f g:Nat}:∀ k,(∀ n,n<k→X n f=Y n g)→vecS V X k f=vecS V Y k g
 | 0,_=>rfl
 | k+1,h=>by rw[vecS_succ,vecS_succ,vecS_congr k (fun n hn=>h n (by omega)),h k (by omega)]
end Go.Proofs.YthikonjlgljikaaGreatDoor
