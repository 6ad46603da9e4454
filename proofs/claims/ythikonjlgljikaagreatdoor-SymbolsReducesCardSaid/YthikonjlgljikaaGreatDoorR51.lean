/- Contract of halfplanebase.SameMatrix: equal matrices. -/
import Derived.Test.YthikonjlgljikaaGreatDoorR50
import Derived.Test.YthikonjlgljikaaGreatDoorR47
import Derived.Test.YthikonjlgljikaaGreatDoorR34
import Derived.Test.YthikonjlgljikaaGreatDoorR42
import Derived.Test.YthikonjlgljikaaGreatDoorR43
set_option linter.unusedSimpArgs false
set_option maxRecDepth 100000
set_option maxHeartbeats 8000000
namespace Go.Proofs.YthikonjlgljikaaGreatDoor
open Go.RowKit Eli
theorem c_SameMatrix_eq (R C:Int) (v1 v2:Value) (n:Nat) (f:Nat→Rat) (w:World) (h1:QL (fun j=>IsQ (f j)) w v1 n) (h2:QL (fun j=>IsQ (f j)) w v2 n) (hn:n≤1000000) (hf:∀ j,j<n→hq (f j)≤35184372088830):
  Calls Tryz.prog 28 #[.agg #[.int .i64 R,.int .i64 C,v1],.agg #[.int .i64 R,.int .i64 C,v2]] w fun e w'=>e=.returned (.bool true)∧Below w.heap.size w w':=by
 obtain⟨p1,c1,rfl⟩:=ql_value h1
 obtain⟨p2,c2,rfl⟩:=ql_value h2
 have HSR:=Kh (fun W (hb:Below w.heap.size w W)=>c_SameRats_eq (.slice p1 n c1) (.slice p2 n c2) n f W (h1.keep (fun _=>IsQ.solid _) hb) (h2.keep (fun _=>IsQ.solid _) hb) hn hf)
 clear h1 h2 hf
 go_enter Tryz.func28,Tryz.ntmps28
 go_upto_region 1 with(fail)
 obtain⟨w0,hw0,X0,X1,hb0⟩:=bx2 w #[.int .i64 R,.int .i64 C,.slice p1 n c1] 51 #[.int .i64 R,.int .i64 C,.slice p2 n c2] 51
 rw[hw0]
 have a0:=X0.at_ 0 rfl
 have a1:=X0.at_ 1 rfl
 have a2:=X0.at_ 2 rfl
 have b0:=X1.at_ 0 rfl
 have b1:=X1.at_ 1 rfl
 have b2:=X1.at_ 2 rfl
 clear hw0 X0 X1
 go_wp2_with fail
 refine(HSR.out w0 hb0).mono ?_
 rintro e w1 ⟨rfl,hb1⟩
 have HB1:=Kh (hb0.trans (hb1.mono hb0.size))
 clear hb1 hb0 a0 a1 a2 b0 b1 b2
 go_wp2
 go_ret
 exact⟨rfl,HB1.out⟩
theorem c_Relations_bad (N k D:Int) (w:World) (hck:Pl.check N k D≠0):
  Calls Tryz.prog 33 #[.agg #[.int .i64 N,.int .i64 k,.int .i64 D]] w fun e w'=>e=.returned (.tuple #[.agg #[.int .i64 0,.int .i64 0,.slice none 0 0],.int .i64 (Pl.check N k D)])∧Below w.heap.size w w':=by
 have HEN:=Kh (fun W=>c_enter_bad N k D W hck)
 obtain⟨er,her⟩:∃ er,Pl.check N k D=er:=⟨_,rfl⟩
 rw[her]at hck HEN ⊢
 have hne:(er != 0)=true:=by simpa using hck
 clear her hck
 go_enter Tryz.func33,Tryz.ntmps33
 go_wp2_with fail
 obtain⟨w0,hw0,X0,X1,hb0⟩:=bx2 w #[.int .i64 N,.int .i64 k,.int .i64 D] 23 #[.int .i64 0,.int .i64 0,.slice none 0 0] 76
 rw[hw0]
 refine(HEN.out w0).mono ?_
 rintro e w1 ⟨rfl,hb1⟩
 have HX1:=Kh (X1.below_ hb1 X1.lt)
 have HB1:=Kh (hb0.trans (hb1.mono hb0.size))
 obtain⟨gr,hgr⟩:∃ x,w.heap.size+1=x:=⟨_,rfl⟩
 have HGR:=Kh hgr
 rw[hgr]at HX1 ⊢
 have r0:=HX1.out.at_ 0 rfl
 have r1:=HX1.out.at_ 1 rfl
 have r2:=HX1.out.at_ 2 rfl
 have f0:=HX1.out.free_ 0
 have f1:=HX1.out.free_ 1
 have f2:=HX1.out.free_ 2
 have HE3:=Kh (put3_at (w:=w1) (R:=gr) (v0:=.int .i64 0) (v1:=.int .i64 0) (v2:=.slice none 0 0) (by rw[r0];rfl) (by rw[r1];rfl) (by rw[r2];rfl))
 clear hw0 X0 X1 hb0 hb1 hgr HEN
 go_wp2
 have e0:=HE3.out.1
 have e1:=HE3.out.2.1
 have e2:=HE3.out.2.2
 try simp only[Exit.inBlock,Exit.then]
 refine bodyPost_ret (by simp[results,Tryz.results33,go_sem,e0,e1,e2];try rfl) rfl ?_
 exact⟨rfl,((HB1.out.setCell (p:=⟨gr,0,none⟩) (by have:=HGR.out;show w.heap.size≤gr;omega) _).setCell (p:=⟨gr,1,none⟩) (by have:=HGR.out;show w.heap.size≤gr;omega) _).setCell (p:=⟨gr,2,none⟩) (by have:=HGR.out;show w.heap.size≤gr;omega) _⟩
theorem c_New_check (N k D:Int) (w:World) (hck:Pl.check N k D≠0):
  Calls Tryz.prog 19 #[.agg #[.int .i64 N,.int .i64 k,.int .i64 D]] w fun e w'=>e=.returned (.tuple #[.pointer none,.int .i64 (Pl.check N k D)])∧Below w.heap.size w w':=
 c_New_bad N k D (Pl.check N k D) w (fun w1 _=>(c_Relations_bad N k D w1 hck).mono (fun _ _ h=>⟨⟨0,0,h.1⟩,h.2⟩)) hck
theorem c_Relations40_bad (N k D:Int) (w:World) (hck:Pl.check N k D≠0):
  Calls Tryz.prog 58 #[.agg #[.int .i64 N,.int .i64 k,.int .i64 D]] w fun e w'=>e=.returned (.tuple #[.agg #[.int .i64 0,.int .i64 0,.slice none 0 0],.int .i64 (Pl.check N k D)])∧Below w.heap.size w w':=by
 have HCT:=Kh (fun W=>c_Count40_bad N k D W hck)
 obtain⟨er,her⟩:∃ er,Pl.check N k D=er:=⟨_,rfl⟩
 rw[her]at hck HCT ⊢
 have hne:(er != 0)=true:=by simpa using hck
 have hnf:¬ er=0:=hck
 clear her
 go_enter Tryz.func58,Tryz.ntmps58
 go_wp2_with fail
 obtain⟨w0,hw0,X0,X1,hb0⟩:=bx2 w #[.int .i64 N,.int .i64 k,.int .i64 D] 23 #[.int .i64 0,.int .i64 0,.slice none 0 0] 76
 rw[hw0]
 refine(HCT.out w0).mono ?_
 rintro e w1 ⟨rfl,hb1⟩
 have X1b:=X1.below_ hb1 X1.lt
 have HB1:=Kh (hb0.trans (hb1.mono hb0.size))
 have HX1:=Kh X1b
 have r0:=X1b.at_ 0 rfl
 have f0:=X1b.free_ 0
 have r1:=X1b.at_ 1 rfl
 have f1:=X1b.free_ 1
 have r2:=X1b.at_ 2 rfl
 have f2:=X1b.free_ 2
 clear hw0 X0 X1 hb0 hb1 X1b
 go_wp2
 obtain⟨e0,e1,e2⟩:=put3_at (w:=w1) (R:=w.heap.size+1) (v0:=.int .i64 0) (v1:=.int .i64 0) (v2:=.slice none 0 0) (by rw[r0];rfl) (by rw[r1];rfl) (by rw[r2];rfl)
 try simp only[Exit.inBlock,Exit.then]
 refine bodyPost_ret (by simp[results,Tryz.results58,go_sem,e0,e1,e2];try rfl) rfl ?_
 exact⟨rfl,below_but HB1.out (((but_put w1 (w.heap.size+1) 0 _).trans (but_put _ _ 1 _)).trans (but_put _ _ 2 _)) HB1.out.size (by omega)⟩
theorem c_New41_bad (N k D:Int) (w:World) (hck:Pl.check N k D≠0):
  Calls Tryz.prog 20 #[.agg #[.int .i64 N,.int .i64 k,.int .i64 D]] w fun e w'=>e=.returned (.tuple #[.agg #[.int .i64 0,.int .i64 0,.int .i64 0,.int .i64 0,.slice none 0 0,.int .i64 0,.int .i64 0,.slice none 0 0],.int .i64 (Pl.check N k D)])∧Below w.heap.size w w':=by
 have HCT:=Kh (fun W=>c_Relations40_bad N k D W hck)
 obtain⟨er,her⟩:∃ er,Pl.check N k D=er:=⟨_,rfl⟩
 rw[her]at hck HCT ⊢
 have hne:(er != 0)=true:=by simpa using hck
 have hnf:¬ er=0:=hck
 clear her
 go_enter Tryz.func20,Tryz.ntmps20
 go_wp2_with fail
 obtain⟨w0,hw0,X0,X1,hb0⟩:=bx2 w #[.int .i64 N,.int .i64 k,.int .i64 D] 23 #[.int .i64 0,.int .i64 0,.int .i64 0,.int .i64 0,.slice none 0 0,.int .i64 0,.int .i64 0,.slice none 0 0] 53
 rw[hw0]
 refine(HCT.out w0).mono ?_
 rintro e w1 ⟨rfl,hb1⟩
 have hbz:=hb1
 go_upto_region 2 with(fail)
 obtain⟨w2,hw2,_,hb2⟩:=bx1 w1 #[.int .i64 0,.int .i64 0,.slice none 0 0] 76
 rw[hw2]
 have hb12:=hb1.trans (hb2.mono hb1.size)
 have X1b:=X1.below_ hb12 X1.lt
 have HB1:=Kh (hb0.trans (hb12.mono hb0.size))
 have r0:=X1b.at_ 0 rfl
 have f0:=X1b.free_ 0
 have r1:=X1b.at_ 1 rfl
 have f1:=X1b.free_ 1
 have r2:=X1b.at_ 2 rfl
 have f2:=X1b.free_ 2
 have r3:=X1b.at_ 3 rfl
 have f3:=X1b.free_ 3
 have r4:=X1b.at_ 4 rfl
 have f4:=X1b.free_ 4
 have r5:=X1b.at_ 5 rfl
 have f5:=X1b.free_ 5
 have r6:=X1b.at_ 6 rfl
 have f6:=X1b.free_ 6
 have r7:=X1b.at_ 7 rfl
 have f7:=X1b.free_ 7
 have HE8:=Kh (put8_at (w:=w2) (R:=w.heap.size+1) (v0:=.int .i64 0) (v1:=.int .i64 0) (v2:=.int .i64 0) (v3:=.int .i64 0) (v4:=.slice none 0 0) (v5:=.int .i64 0) (v6:=.int .i64 0) (v7:=.slice none 0 0) (fun i hi=>by
  match i,hi with
  | 0,_=>rw[r0];rfl
  | 1,_=>rw[r1];rfl
  | 2,_=>rw[r2];rfl
  | 3,_=>rw[r3];rfl
  | 4,_=>rw[r4];rfl
  | 5,_=>rw[r5];rfl
  | 6,_=>rw[r6];rfl
  | 7,_=>rw[r7];rfl
  |(i+8),h=>omega))
 clear hw0 X0 X1 hb0 hb1 hb2 hb12 hbz X1b hw2
 go_wp2
 obtain⟨e0,e1,e2,e3,e4,e5,e6,e7⟩:=HE8.out
 try simp only[Exit.inBlock,Exit.then]
 refine bodyPost_ret (by simp[results,Tryz.results20,go_sem,e0,e1,e2,e3,e4,e5,e6,e7];try rfl) rfl ?_
 exact⟨rfl,below_but HB1.out (put8_but (w:=w2) (R:=w.heap.size+1) (v0:=.int .i64 0) (v1:=.int .i64 0) (v2:=.int .i64 0) (v3:=.int .i64 0) (v4:=.slice none 0 0) (v5:=.int .i64 0) (v6:=.int .i64 0) (v7:=.slice none 0 0)) HB1.out.size (by omega)⟩
theorem c_New41_ok (n wt:Nat) (D:Int) (w:World) (hck:Pl.check n ((wt:Int)+2) D=0) (hC:cntF n wt≤72):
  Calls Tryz.prog 20 #[.agg #[.int .i64 n,.int .i64 ((wt:Int)+2),.int .i64 D]] w fun e w'=>NewRet n ((wt:Int)+2) D (cntF n wt) (frs (elF n wt D) (cntF n wt)) (crd (elF n wt D) (cntF n wt) (cntF n wt)) w.heap.size w' e∧Below w.heap.size w w':=by
 obtain⟨h1,h2,h3,h4,h5,h6⟩:=check_zero hck
 have hp:0<cntF n wt:=cntF_pos (by omega)
 exact c_New41 n ((wt:Int)+2) D (2*cntF n wt) (cntF n wt) (relF n wt D) w (fun w1 _=>c_Relations40 n wt D (pts n (n*n)) (cntF n wt) w1 hck rfl rfl hp hC) (by omega) (by omega) hp hC (relF_small (by omega))
theorem OwnQ.caps {F:Nat→FP} {w:World} {B n g cap:Nat} (h:OwnQ F w B (.slice (some ⟨g,0,none⟩) n cap) n):n≤cap∧cap≤9223372036854775807:=by
 obtain⟨xs,h1,_⟩:=h
 rcases h1.1.2 with⟨e,_⟩ |⟨g',cap',cs,e,_,_,hn,hcm,_⟩
 ·cases e
 ·cases e
  exact⟨hn,by simp only[maxLen]at hcm;omega⟩
end Go.Proofs.YthikonjlgljikaaGreatDoor
