/- The law's Poly (polynomials of small fractions), sum (of three rows), and Quick. -/
import Derived.Test.YtijgdhijdfgpfaaGreatDoorZ43
import Derived.Test.YtijgdhijdfgpfaaGreatDoorZ36
import Derived.Test.YtijgdhijdfgpfaaGreatDoorZ25
import Derived.Test.YtijgdhijdfgpfaaGreatDoorZ19
import Derived.Test.YtijgdhijdfgpfaaGreatDoorZ22
import Derived.Test.YtijgdhijdfgpfaaGreatDoorZ13
import Derived.Test.YtijgdhijdfgpfaaGreatDoorZ30
import Derived.Test.YtijgdhijdfgpfaaGreatDoorZ34
import Derived.Test.YtijgdhijdfgpfaaGreatDoorZ39
import Derived.Test.YtijgdhijdfgpfaaGreatDoorZ23
set_option linter.unusedSimpArgs false
set_option maxRecDepth 100000
set_option maxHeartbeats 8000000
namespace Go.Proofs.YtijgdhijdfgpfaaGreatDoor
open Go.RowKit Eli
def plU (x:Nat→Int) (ln k:Nat):Rat:=Rat.divInt (if k<ln then x k else 0) ((1+k % 2:Nat):Int)
theorem plU_size {x:Nat→Int} {ln k:Nat} (hx:∀ k,k<ln→-128≤x k∧x k≤127):hq (plU x ln k)≤1:=by
 refine hq_over (by omega) (nd_le.2 ?_) (nd_le.2 ?_)
 ·split
  ·rename_i h
   have:=hx k h
   omega
  ·decide
 ·omega
theorem c_Poly (p:Option Addr) (ln c:Nat) (x:Nat→Int) (n:Nat) (w:World) (hp:∀ k,k<ln→∃ g o,p=some ⟨g,o,none⟩∧g<w.heap.size∧w.cell? ⟨g,o+k,none⟩=some (.int .i8 (x k))) (hx:∀ k,k<ln→-128≤x k∧x k≤127) (hn:n≤1000):
  Calls Tryz.prog 17 #[.slice p ln c,.int .i64 n] w fun e w'=>(∃ v',e=.returned v'∧OwnQ (fun j=>IsQ (plU x ln j)) w' w.heap.size v' n)∧Below w.heap.size w w':=by
 have HN:=Kh (OwnQ.nil (fun j=>IsQ (plU x ln j)) w w.heap.size)
 have HP:=Kh hp
 have HX:=Kh hx
 clear hp hx
 go_enter Tryz.func17,Tryz.ntmps17
 go_wp2
 go_loopw [5,6] (fun v i wr=>∃ k:Nat,k≤n∧i=.int .i64 k∧OwnQ (fun j=>IsQ (plU x ln j)) wr w.heap.size v k∧Below w.heap.size w wr) (fun _ i _=>n - (intOf i).toNat)
 case atStart=>exact⟨0,Nat.zero_le _,rfl,HN.out,Below.refl _ _⟩
 case round=>
  obtain⟨k,hk,rfl,ho,hb⟩:=hrel
  have HO:=Kh ho
  have HB:=Kh hb
  clear ho HN
  by_cases hlt:k<n
  ·obtain⟨r,hr⟩:∃ r,k % 2=r:=⟨_,rfl⟩
   have hr2:r<2:=by omega
   obtain⟨d,hd⟩:∃ d,1+r=d:=⟨_,rfl⟩
   have e1:Int.tmod (k:Int) 2=(r:Nat):=by rw[Int.tmod_eq_emod_of_nonneg (by omega)];omega
   have v0:IntKind.i64.wrap (r:Int)=(r:Nat):=IntWalk.i64_in _ (by omega)
   have e2:(1:Int)+(r:Int)=(d:Nat):=by omega
   have v1:IntKind.i64.wrap (d:Int)=(d:Nat):=IntWalk.i64_in _ (by omega)
   have HD:=Kh (show 1+k % 2=d by omega)
   have hd1:0<d∧d≤3:=by omega
   have HD1:=Kh hd1
   have hki:(k:Int)<(n:Int):=by omega
   by_cases hkl:k<ln
   ·obtain⟨g,o,rfl,hg,hc⟩:=HP.out k hkl
    obtain⟨z,hz⟩:∃ z,x k=z:=⟨_,rfl⟩
    have hzb:=HX.out k hkl
    rw[hz]at hc hzb
    have HZ:=Kh (show plU x ln k=Rat.divInt z d by rw[plU,if_pos hkl,hz,HD.out])
    have a0:wr.cell? ⟨g,o+k,none⟩=some (.int .i8 z):=(hb.cell (p:=⟨g,o+k,none⟩) hg).trans hc
    have v2:IntKind.i64.wrap z=z:=IntWalk.i64_in _ (by omega)
    have hkli:(k:Int)<(ln:Int):=by omega
    have HC:=Kh (c_Frac z d wr (by omega) (by omega) (by omega) (by omega))
    clear hb hz hc hd hr hd1 hzb
    go_wp2_with fail
    refine HC.out.mono ?_
    rintro e w2 ⟨⟨s,p1,i1,c1,t,q1,m,d1,rfl,hq⟩,hb2⟩
    obtain⟨xs,hK,hX⟩:=HO.out.keep (fun _=>IsQ.solid _) hb2
    have HK:=Kh hK
    have HX2:=Kh hX
    have HQ:=Kh (show IsQ (plU x ln k) w2 s p1 i1 c1 t q1 m d1 by rw[HZ.out];exact hq)
    have HB1:=bt HB hb2
    clear hK hX hq hb2 HO HB a0 HC
    go_wp2_with (at_builtin;refine wpl_app2 NotInt rfl (.tmp 22) (.tmp 28) _ 67 rfl Tryz.underlying22 ratInfo rfl (by decide) w.heap.size k u5 xs [.bool s,.slice p1 i1 c1,.bool t,.slice q1 m d1] rfl HK.out rfl rfl (one4 _ _ _ _ _ _ _ _) (by omega) (by omega) HB1.out.size (ni4 _ _ _ _ _ _ _ _) niz ?_;intro v' w' hown' hgr hat;have HO2:=Kh (OwnQ.push (W:=_) (fun _=>IsQ.solid _) HK.out HX2.out HQ.out hown' hgr);have HB2:=Kh (own_below HB1.out HK.out.1 hgr (Nat.le_refl _) HB1.out.size);clear hown' hgr hat)
    go_roundw
    case rel=>exact⟨k+1,by omega,by go_num,HO2.out,HB2.out⟩
    case measure=>simp[intOf];omega
   ·have HZ:=Kh (show plU x ln k=Rat.divInt 0 d by rw[plU,if_neg hkl,HD.out])
    have hkli:¬ ((k:Int)<(ln:Int)):=by omega
    have HC:=Kh (c_Frac 0 d wr (by omega) (by omega) (by omega) (by omega))
    clear hb hd hr hd1
    go_wp2_with fail
    refine HC.out.mono ?_
    rintro e w2 ⟨⟨s,p1,i1,c1,t,q1,m,d1,rfl,hq⟩,hb2⟩
    obtain⟨xs,hK,hX⟩:=HO.out.keep (fun _=>IsQ.solid _) hb2
    have HK:=Kh hK
    have HX2:=Kh hX
    have HQ:=Kh (show IsQ (plU x ln k) w2 s p1 i1 c1 t q1 m d1 by rw[HZ.out];exact hq)
    have HB1:=bt HB hb2
    clear hK hX hq hb2 HO HB HC
    go_wp2_with (at_builtin;refine wpl_app2 NotInt rfl (.tmp 22) (.tmp 28) _ 67 rfl Tryz.underlying22 ratInfo rfl (by decide) w.heap.size k u5 xs [.bool s,.slice p1 i1 c1,.bool t,.slice q1 m d1] rfl HK.out rfl rfl (one4 _ _ _ _ _ _ _ _) (by omega) (by omega) HB1.out.size (ni4 _ _ _ _ _ _ _ _) niz ?_;intro v' w' hown' hgr hat;have HO2:=Kh (OwnQ.push (W:=_) (fun _=>IsQ.solid _) HK.out HX2.out HQ.out hown' hgr);have HB2:=Kh (own_below HB1.out HK.out.1 hgr (Nat.le_refl _) HB1.out.size);clear hown' hgr hat)
    go_roundw
    case rel=>exact⟨k+1,by omega,by go_num,HO2.out,HB2.out⟩
    case measure=>simp[intOf];omega
  ·obtain rfl:k=n:=by omega
   clear hb
   go_wp2
   go_ret
   exact⟨⟨_,rfl,HO.out⟩,HB.out⟩
theorem ret_d {a b:Bool} (h:a=b):Ending.returned (.bool a)=Ending.returned (.bool b):=by rw[h]
theorem c_small42 (p q:Int) (w:World):Calls Tryz.prog 37 #[.agg #[.int .i64 p,.int .i64 q]] w fun e w'=>e=.returned (.bool (decide (q≤400)))∧Below w.heap.size w w':=by
 go_enter Tryz.func37,Tryz.ntmps37
 go_wp2
 go_ret
 exact⟨rfl,(Below.refl _ _).alloc (Nat.le_refl _) _⟩
theorem c_Quick (v:Value) (p q p' q':Int) (w:World):Calls Tryz.prog 15 #[.agg #[v,.int .i64 p,.int .i64 q,.int .i64 p',.int .i64 q']] w fun e w'=>e=.returned (.bool (decide (q≤400∧q'≤400)))∧Below w.heap.size w w':=by
 have HS:=Kh c_small42
 go_enter Tryz.func15,Tryz.ntmps15
 go_wp2_with fail
 obtain⟨w0,hw0,X0,hb0⟩:=bx1 w #[v,.int .i64 p,.int .i64 q,.int .i64 p',.int .i64 q'] 26
 rw[hw0]
 refine(HS.out p q w0).mono ?_
 rintro e w1 ⟨rfl,hb1⟩
 have X1:=X0.below_ hb1 X0.lt
 have x3:=X1.at_ 3 rfl
 have x4:=X1.at_ 4 rfl
 have HB1:=Kh (hb0.trans (hb1.mono hb0.size))
 clear hw0 X0 hb0 hb1 X1
 by_cases h:q≤400
 ·rw[decide_eq_true h]
  go_wp2_with fail
  refine(HS.out p' q' w1).mono ?_
  rintro e w2 ⟨rfl,hb2⟩
  have HB2:=bt HB1 hb2
  clear hb2
  go_wp2
  go_ret
  exact⟨ret_d (by simp[h]),HB2.out⟩
 ·rw[decide_eq_false h]
  go_wp2
  go_ret
  exact⟨ret_d (by simp;omega),HB1.out⟩
end Go.Proofs.YtijgdhijdfgpfaaGreatDoor
namespace Go.Proofs.YtijgdhijdfgpfaaGreatDoor
open Go.RowKit
def fitB (a b c d:Int):Bool:=inE a&&(inE b&&(inE c&&inE d))
theorem c_fitB (a b c d:Int) (w:World):Calls Tryz.prog 98 #[.agg #[.int .i64 a,.int .i64 b,.int .i64 c,.int .i64 d]] w fun e w'=>e=.returned (.bool (fitB a b c d))∧Below w.heap.size w w':=by
 have HI:=Kh c_in
 go_enter Tryz.func98,Tryz.ntmps98
 go_wp2_with fail
 obtain⟨w1,hw1⟩:∃ w1,w.alloc (.cells #[.int .i64 a,.int .i64 b,.int .i64 c,.int .i64 d] 28)=w1:=⟨_,rfl⟩
 have X:=Blk.new w 28 #[.int .i64 a,.int .i64 b,.int .i64 c,.int .i64 d]
 rw[hw1]at X ⊢
 have HB:=Kh (show Below w.heap.size w w1 from hw1▸(Below.refl _ _).alloc (Nat.le_refl _) _)
 have x0:=X.at_ 0 rfl
 have x1:=X.at_ 1 rfl
 have x2:=X.at_ 2 rfl
 have x3:=X.at_ 3 rfl
 clear hw1 X
 refine(HI.out a w1).mono ?_
 rintro e w' ⟨rfl,hw'⟩
 obtain rfl:w1=w':=hw'.symm
 cases ha:inE a with
 | false=>
  go_wp2
  go_ret
  exact⟨ret_b (by simp only[fitB,ha,Bool.true_and,Bool.false_and]),HB.out⟩
 | true=>
  go_wp2_with fail
  refine(HI.out b w1).mono ?_
  rintro e w' ⟨rfl,hw'⟩
  obtain rfl:w1=w':=hw'.symm
  cases hb:inE b with
  | false=>
   go_wp2
   go_ret
   exact⟨ret_b (by simp only[fitB,ha,hb,Bool.true_and,Bool.false_and]),HB.out⟩
  | true=>
   go_wp2_with fail
   refine(HI.out c w1).mono ?_
   rintro e w' ⟨rfl,hw'⟩
   obtain rfl:w1=w':=hw'.symm
   cases hc:inE c with
   | false=>
    go_wp2
    go_ret
    exact⟨ret_b (by simp only[fitB,ha,hb,hc,Bool.true_and,Bool.false_and]),HB.out⟩
   | true=>
    go_wp2_with fail
    refine(HI.out d w1).mono ?_
    rintro e w' ⟨rfl,hw'⟩
    obtain rfl:w1=w':=hw'.symm
    cases hd:inE d with
    | false=>
     go_wp2
     go_ret
     exact⟨ret_b (by simp only[fitB,ha,hb,hc,hd,Bool.true_and,Bool.false_and]),HB.out⟩
    | true=>
     go_wp2
     go_ret
     exact⟨ret_b (by simp only[fitB,ha,hb,hc,hd,Bool.true_and]),HB.out⟩
theorem c_Det_bad (a b c d:Int) (w:World) (hf:fitB a b c d=false):Calls Tryz.prog 57 #[.agg #[.int .i64 a,.int .i64 b,.int .i64 c,.int .i64 d]] w fun e w'=>e=.returned (.tuple #[.int .i64 0,.int .i64 2])∧Below w.heap.size w w':=by
 have HF:=Kh (fun w1=>show Calls Tryz.prog 98 #[.agg #[.int .i64 a,.int .i64 b,.int .i64 c,.int .i64 d]] w1 fun e w'=>e=.returned (.bool false)∧Below w1.heap.size w1 w' from by
  have h:=c_fitB a b c d w1
  rw[hf]at h
  exact h)
 clear hf
 go_enter Tryz.func57,Tryz.ntmps57
 go_wp2_with fail
 obtain⟨w0,hw0⟩:∃ w0,w.alloc (.cells #[.int .i64 a,.int .i64 b,.int .i64 c,.int .i64 d] 28)=w0:=⟨_,rfl⟩
 rw[hw0]
 have HB:=Kh (show Below w.heap.size w w0 from hw0▸(Below.refl _ _).alloc (Nat.le_refl _) _)
 clear hw0
 refine(HF.out w0).mono ?_
 rintro e w1 ⟨rfl,hb1⟩
 have HB1:=bt HB hb1
 clear hb1
 go_wp2
 go_ret2
 exact⟨rfl,HB1.out⟩
theorem c_Apply_fit (a b c d p q:Int) (w:World) (hf:fitB a b c d=false):Calls Tryz.prog 31 #[.agg #[.int .i64 a,.int .i64 b,.int .i64 c,.int .i64 d],.agg #[.int .i64 p,.int .i64 q]] w fun e w'=>e=.returned (.tuple #[.agg #[.int .i64 0,.int .i64 0],.int .i64 2])∧Below w.heap.size w w':=by
 have HD:=Kh (fun w1=>show Calls Tryz.prog 57 #[.agg #[.int .i64 a,.int .i64 b,.int .i64 c,.int .i64 d]] w1 fun e w'=>e=.returned (.tuple #[.int .i64 0,.int .i64 2])∧Below w1.heap.size w1 w' from by
  exact c_Det_bad a b c d w1 hf)
 go_enter Tryz.func31,Tryz.ntmps31
 go_wp2_with fail
 obtain⟨w0,hw0,X0,X1,X2,hb0⟩:=bx3 w #[.int .i64 a,.int .i64 b,.int .i64 c,.int .i64 d] 28 #[.int .i64 p,.int .i64 q] 24 #[.int .i64 0,.int .i64 0] 24
 rw[hw0]
 refine(HD.out w0).mono ?_
 rintro e w1 ⟨rfl,hb1⟩
 have X3:=X2.below_ hb1 X2.lt
 have HX:=Kh X3
 have HB1:=Kh (hb0.trans (hb1.mono hb0.size))
 have c0:=X3.at_ 0 rfl
 have c1:=X3.at_ 1 rfl
 have f0:=X3.free_ 0
 have f1:=X3.free_ 1
 clear hw0 X0 X1 X2 hb0 hb1 X3
 go_wp2
 have X4:=(HX.out.set_ 0 (.int .i64 0)).set_ 1 (.int .i64 0)
 have e0:=X4.at_ 0 rfl
 have e1:=X4.at_ 1 rfl
 have e2:=(HX.out.set_ 0 (.int .i64 0)).at_ 0 rfl
 try simp only[Exit.inBlock,Exit.then]
 refine bodyPost_ret (by simp[results,Tryz.results31,go_sem,e0,e1,e2];try rfl) rfl ?_
 exact⟨rfl,(HB1.out.setCell (p:=⟨w.heap.size+1+1,0,none⟩) (by show w.heap.size≤w.heap.size+1+1;omega) _).setCell (p:=⟨w.heap.size+1+1,1,none⟩) (by show w.heap.size≤w.heap.size+1+1;omega) _⟩
theorem c_Apply_sing (a b c d p q:Int) (w:World) (ha:-1073741824≤a) (ha':a≤1073741824) (hb:-1073741824≤b) (hb':b≤1073741824) (hc:-1073741824≤c) (hc':c≤1073741824) (hd:-1073741824≤d) (hd':d≤1073741824) (h0:a*d - b*c=0):Calls Tryz.prog 31 #[.agg #[.int .i64 a,.int .i64 b,.int .i64 c,.int .i64 d],.agg #[.int .i64 p,.int .i64 q]] w fun e w'=>e=.returned (.tuple #[.agg #[.int .i64 0,.int .i64 0],.int .i64 11])∧Below w.heap.size w w':=by
 have HD:=Kh (fun w1=>show Calls Tryz.prog 57 #[.agg #[.int .i64 a,.int .i64 b,.int .i64 c,.int .i64 d]] w1 fun e w'=>e=.returned (.tuple #[.int .i64 0,.int .i64 0])∧Below w1.heap.size w1 w' from by
  have h:=c_Det a b c d w1 ha ha' hb hb' hc hc' hd hd'
  rw[h0]at h
  exact h)
 go_enter Tryz.func31,Tryz.ntmps31
 go_wp2_with fail
 obtain⟨w0,hw0,X0,X1,X2,hb0⟩:=bx3 w #[.int .i64 a,.int .i64 b,.int .i64 c,.int .i64 d] 28 #[.int .i64 p,.int .i64 q] 24 #[.int .i64 0,.int .i64 0] 24
 rw[hw0]
 refine(HD.out w0).mono ?_
 rintro e w1 ⟨rfl,hb1⟩
 have X3:=X2.below_ hb1 X2.lt
 have HX:=Kh X3
 have HB1:=Kh (hb0.trans (hb1.mono hb0.size))
 have c0:=X3.at_ 0 rfl
 have c1:=X3.at_ 1 rfl
 have f0:=X3.free_ 0
 have f1:=X3.free_ 1
 clear hw0 X0 X1 X2 hb0 hb1 X3
 go_wp2
 have X4:=(HX.out.set_ 0 (.int .i64 0)).set_ 1 (.int .i64 0)
 have e0:=X4.at_ 0 rfl
 have e1:=X4.at_ 1 rfl
 have e2:=(HX.out.set_ 0 (.int .i64 0)).at_ 0 rfl
 try simp only[Exit.inBlock,Exit.then]
 refine bodyPost_ret (by simp[results,Tryz.results31,go_sem,e0,e1,e2];try rfl) rfl ?_
 exact⟨rfl,(HB1.out.setCell (p:=⟨w.heap.size+1+1,0,none⟩) (by show w.heap.size≤w.heap.size+1+1;omega) _).setCell (p:=⟨w.heap.size+1+1,1,none⟩) (by show w.heap.size≤w.heap.size+1+1;omega) _⟩
theorem c_Translate_shape (vp:Option Addr) (n vc:Nat) (a b c d p q p' q':Int) (w:World) (hn:n=0∨23<n):
  Calls Tryz.prog 10 #[.agg #[.slice vp n vc,.int .i64 p,.int .i64 q,.int .i64 p',.int .i64 q'],.agg #[.int .i64 a,.int .i64 b,.int .i64 c,.int .i64 d]] w fun e w'=>e=.returned (.tuple #[.agg #[.slice none 0 0,.int .i64 0,.int .i64 0,.int .i64 0,.int .i64 0],.int .i64 4])∧Below w.heap.size w w':=by
 rcases hn with rfl|hn
 ·have h1:((0:Nat):Int)<1:=by decide
  go_enter Tryz.func10,Tryz.ntmps10
  go_wp2
  try simp only[Exit.inBlock,Exit.then]
  refine bodyPost_ret (by simp[results,Tryz.results10,go_sem];try rfl) rfl ?_
  exact⟨rfl,(((Below.refl _ w).alloc (Nat.le_refl _) _).alloc (by simp) _).alloc (by simp;omega) _⟩
 ·have h1:¬ ((n:Int)<1):=by omega
  have h2:(23:Int)<(n:Int):=by omega
  clear hn
  go_enter Tryz.func10,Tryz.ntmps10
  go_wp2
  try simp only[Exit.inBlock,Exit.then]
  refine bodyPost_ret (by simp[results,Tryz.results10,go_sem];try rfl) rfl ?_
  exact⟨rfl,(((Below.refl _ w).alloc (Nat.le_refl _) _).alloc (by simp) _).alloc (by simp;omega) _⟩
theorem c_Translate_err (vp:Option Addr) (n vc:Nat) (a b c d p q p' q' er:Int) (w:World) (hn0:0<n) (hn:n≤23) (her:er≠0)
  (hA:∀ w1,Calls Tryz.prog 31 #[.agg #[.int .i64 a,.int .i64 b,.int .i64 c,.int .i64 d],.agg #[.int .i64 p,.int .i64 q]] w1 fun e w'=>e=.returned (.tuple #[.agg #[.int .i64 0,.int .i64 0],.int .i64 er])∧Below w1.heap.size w1 w'):
  Calls Tryz.prog 10 #[.agg #[.slice vp n vc,.int .i64 p,.int .i64 q,.int .i64 p',.int .i64 q'],.agg #[.int .i64 a,.int .i64 b,.int .i64 c,.int .i64 d]] w fun e w'=>e=.returned (.tuple #[.agg #[.slice none 0 0,.int .i64 0,.int .i64 0,.int .i64 0,.int .i64 0],.int .i64 er])∧Below w.heap.size w w':=by
 have HA:=Kh hA
 have h1:¬ ((n:Int)<1):=by omega
 have h2:¬ ((23:Int)<(n:Int)):=by omega
 have hne:(er != 0)=true:=by rw[bne_iff_ne];exact her
 clear hA
 go_enter Tryz.func10,Tryz.ntmps10
 go_wp2_with fail
 obtain⟨w0,hw0,X0,X1,X2,hb0⟩:=bx3 w #[.slice vp n vc,.int .i64 p,.int .i64 q,.int .i64 p',.int .i64 q'] 26 #[.int .i64 a,.int .i64 b,.int .i64 c,.int .i64 d] 28 #[.slice none 0 0,.int .i64 0,.int .i64 0,.int .i64 0,.int .i64 0] 26
 rw[hw0]
 refine(HA.out w0).mono ?_
 rintro e w1 ⟨rfl,hb1⟩
 have X3:=X2.below_ hb1 X2.lt
 have HB1:=Kh (hb0.trans (hb1.mono hb0.size))
 have HX:=Kh (X3.alloc_ (.cells #[.int .i64 0,.int .i64 0] 24))
 have HB2:=Kh (HB1.out.alloc HB1.out.size (.cells #[.int .i64 0,.int .i64 0] 24))
 have c0:=HX.out.at_ 0 rfl
 have c1:=HX.out.at_ 1 rfl
 have c2:=HX.out.at_ 2 rfl
 have c3:=HX.out.at_ 3 rfl
 have c4:=HX.out.at_ 4 rfl
 have f0:=HX.out.free_ 0
 have f1:=HX.out.free_ 1
 have f2:=HX.out.free_ 2
 have f3:=HX.out.free_ 3
 have f4:=HX.out.free_ 4
 clear hw0 X0 X1 X2 hb0 hb1 X3
 go_wp2
 have X5:=((((HX.out.set_ 0 (.slice none 0 0)).set_ 1 (.int .i64 0)).set_ 2 (.int .i64 0)).set_ 3 (.int .i64 0)).set_ 4 (.int .i64 0)
 have e0:=X5.at_ 0 rfl
 have e1:=X5.at_ 1 rfl
 have e2:=X5.at_ 2 rfl
 have e3:=X5.at_ 3 rfl
 have e4:=X5.at_ 4 rfl
 have q0:=(HX.out.set_ 0 (.slice none 0 0)).at_ 0 rfl
 have q1:=((HX.out.set_ 0 (.slice none 0 0)).set_ 1 (.int .i64 0)).at_ 1 rfl
 have q2:=(((HX.out.set_ 0 (.slice none 0 0)).set_ 1 (.int .i64 0)).set_ 2 (.int .i64 0)).at_ 2 rfl
 have q3:=((((HX.out.set_ 0 (.slice none 0 0)).set_ 1 (.int .i64 0)).set_ 2 (.int .i64 0)).set_ 3 (.int .i64 0)).at_ 3 rfl
 try simp only[Exit.inBlock,Exit.then]
 refine bodyPost_ret (by simp[results,Tryz.results10,go_sem,e0,e1,e2,e3,e4,q0,q1,q2,q3];try rfl) rfl ?_
 have hge:w.heap.size≤w.heap.size+1+1:=by omega
 exact⟨rfl,((((HB2.out.setCell (p:=⟨w.heap.size+1+1,0,none⟩) hge _).setCell (p:=⟨w.heap.size+1+1,1,none⟩) hge _).setCell (p:=⟨w.heap.size+1+1,2,none⟩) hge _).setCell (p:=⟨w.heap.size+1+1,3,none⟩) hge _).setCell (p:=⟨w.heap.size+1+1,4,none⟩) hge _⟩
end Go.Proofs.YtijgdhijdfgpfaaGreatDoor
namespace Go.Proofs.YtijgdhijdfgpfaaGreatDoor
open Go.RowKit Eli
theorem QRow.cellOf {F:Nat→FP} {w:World} {g N:Nat} (h:QRow F w g N N) {i:Nat} (hi:i<N*4):w.cell? ⟨g,i,none⟩=some (cellOf w ⟨g,i,none⟩):=by
 obtain⟨u,hu⟩:=Option.isSome_iff_exists.1 (h.has i hi)
 rw[hu,cellOf_eq hu]
theorem QRow.shape {F:Nat→FP} {w:World} {g N:Nat} (h:QRow F w g N N) {u:Value} (hu:u∈rowCells w g (N*4)):(∃ s,u=.bool s)∨∃ p n c,u=.slice p n c:=by
 obtain⟨i,hj⟩:=List.getElem?_of_mem hu
 have hi:=rowCells_lt hj
 rw[rowCells_get hi]at hj
 injection hj with hj
 subst hj
 obtain⟨s,p,n,c,t,q,m,d,e0,e1,e2,e3,_⟩:=h.val (i / 4) (by omega)
 rcases(by omega:i % 4=0∨i % 4=1∨i % 4=2∨i % 4=3)with h4|h4|h4|h4
 ·rw[show i / 4*4=i by omega]at e0
  exact .inl ⟨s,cellOf_eq e0⟩
 ·rw[show i / 4*4+1=i by omega]at e1
  exact .inr ⟨p,n,c,cellOf_eq e1⟩
 ·rw[show i / 4*4+2=i by omega]at e2
  exact .inl ⟨t,cellOf_eq e2⟩
 ·rw[show i / 4*4+3=i by omega]at e3
  exact .inr ⟨q,m,d,cellOf_eq e3⟩
theorem QRow.one {F:Nat→FP} {w:World} {g N:Nat} (h:QRow F w g N N):∀ u∈rowCells w g (N*4),u.oneCell'=true:=by
 intro u hu
 rcases h.shape hu with⟨s,rfl⟩ |⟨p,n,c,rfl⟩ <;> rfl
theorem QRow.cells {F:Nat→FP} {w:World} {g N:Nat} (h:QRow F w g N N):∀ (j:Nat) (u:Value),(rowCells w g (N*4))[j]?=some u→w.cell? ⟨g,j,none⟩=some u:=by
 intro j u hj
 have hl:=rowCells_lt hj
 rw[rowCells_get hl]at hj
 rw[h.cellOf hl,hj]
theorem OwnQ.more {F R:Nat→FP} (hF:∀ j,Solid (F j)) {W w':World} {B n m g:Nat} {v v':Value} {xs:List Value} (h1:OwnK NotInt W B 67 4 v n xs) (h2:∀ j,j<n→QX (F j) W xs (j*4))
  (hr:QRow R W g m m) (h3:OwnK NotInt w' B 67 4 v' (n+m) (xs++rowCells W g (m*4))) (hg:W.grownBy w' v.ownBlock) (e2:∀ j,j<m→F (n+j)=R j):OwnQ F w' B v' (n+m):=by
 have h32:=I32.grown (K:=NotInt) (fun x=>not_int32 x) h1.2 hg
 refine⟨_,h3,fun j hj=>?_⟩
 by_cases hjn:j<n
 ·exact((h2 j hjn).i32 (hF j) h32).app
 ·obtain⟨k,rfl⟩:∃ k,j=n+k:=⟨j - n,by omega⟩
  have hk:k<m:=by omega
  have hl:xs.length=n*4:=h1.1.1
  obtain⟨s,p,c,d,t,q,e,f,c0,c1,c2,c3,hz⟩:=hr.val k hk
  rw[← e2 k hk]at hz
  refine⟨s,p,c,d,t,q,e,f,?_,?_,?_,?_,hF _ _ _ _ _ _ _ _ _ _ _ h32 hz⟩
  ·rw[List.getElem?_append_right (by omega),hl,show(n+k)*4 - n*4=k*4 by omega,rowCells_get (by omega),cellOf_eq c0]
  ·rw[List.getElem?_append_right (by omega),hl,show(n+k)*4+1 - n*4=k*4+1 by omega,rowCells_get (by omega),cellOf_eq c1]
  ·rw[List.getElem?_append_right (by omega),hl,show(n+k)*4+2 - n*4=k*4+2 by omega,rowCells_get (by omega),cellOf_eq c2]
  ·rw[List.getElem?_append_right (by omega),hl,show(n+k)*4+3 - n*4=k*4+3 by omega,rowCells_get (by omega),cellOf_eq c3]
structure MatAt (F:Nat→FP) (w:World) (go B R C m:Nat):Prop where
 lt:go<B
 hB:B≤w.heap.size
 c0:w.cell? ⟨go,0,none⟩=some (.int .i64 (R:Int))
 c1:w.cell? ⟨go,1,none⟩=some (.int .i64 (C:Int))
 c2:∃ p c,w.cell? ⟨go,2,none⟩=some (.slice p m c)∧OwnQ F w B (.slice p m c) m
 fr:w.frozen? ⟨go,2,none⟩=false
 stk:Stk NotU32 w go
theorem MatAt.keep {F:Nat→FP} (hF:∀ j,Solid (F j)) {w w':World} {go B R C m:Nat} (h:MatAt F w go B R C m) (hb:Below w.heap.size w w'):MatAt F w' go B R C m:=by
 obtain⟨p,c,e2,h2⟩:=h.c2
 exact⟨h.lt,Nat.le_trans h.hB hb.size,cell_next hb h.c0,cell_next hb h.c1,⟨p,c,cell_next hb e2,h2.keep hF hb⟩,frozen_keep hb (by rw[e2];rfl) h.fr,h.stk.next hb⟩
theorem OwnQ.box {F:Nat→FP} (hF:∀ j,Solid (F j)) {w w':World} {B n G:Nat} {v:Value} (h:OwnQ F w B v n) (h32:I32 w w') (hg:w.grownBy w' (some G)) (hG:G<B):OwnQ F w' B v n:=by
 obtain⟨xs,h1,h2⟩:=h
 have hne:∀ g,v.ownBlock=some g→some g≠some G:=fun g e e2=>by
  have:=own_ge h1.1 e.symm
  injection e2 with e2;omega
 refine⟨xs,⟨h1.1.kept hg ?_,fun g e=>?_⟩,fun j hj=>(h2 j hj).i32 (hF j) h32⟩
 ·cases hv:v.ownBlock with
  | none=>exact .inl rfl
  | some g=>exact .inr (hne g hv)
 ·have hs:=h1.2 g e
  have hb:=hg.block g hs.1 (hne g e)
  exact⟨Nat.lt_of_lt_of_le hs.1 hg.size,fun i u hu=>hs.2 i u ((World.cell?_of_block (a:=⟨g,i,none⟩) hb).symm.trans hu)⟩
theorem MatAt.more {F:Nat→FP} (hF:∀ j,Solid (F j)) {W w':World} {go B R C m n:Nat} {xs:List Value} {p:Option Addr} {c:Nat} {p':Option Addr} {c':Nat} (h:MatAt F W go B R C m) (hv:W.cell? ⟨go,2,none⟩=some (.slice p m c)) (h1:W.ownsRow B 67 4 (.slice p m c) m xs) (hO:OwnQ F w' B (.slice p' n c') n) (hg:W.grownBy w' (Value.slice p m c).ownBlock):
  w'.cell? ⟨go,2,none⟩=some (.slice p m c)∧w'.frozen? ⟨go,2,none⟩=false∧MatAt F (w'.setCell ⟨go,2,none⟩ (.slice p' n c')) go B R C n:=by
 have hne:some go≠(Value.slice p m c).ownBlock:=fun e=>by
  have:=own_ge h1 e
  have:=h.lt
  omega
 have hgo:go<W.heap.size:=Nat.lt_of_lt_of_le h.lt h.hB
 have hblk:=hg.block go hgo (fun e=>hne e)
 have d2:w'.cell? ⟨go,2,none⟩=some (.slice p m c):=(World.cell?_of_block (a:=⟨go,2,none⟩) hblk).trans hv
 have df:w'.frozen? ⟨go,2,none⟩=false:=(World.frozen?_of_block (a:=⟨go,2,none⟩) hblk).trans h.fr
 have hst:Stk NotU32 w' go:=⟨Nat.lt_of_lt_of_le hgo hg.size,fun i u hu=>h.stk.2 i u ((World.cell?_of_block (a:=⟨go,i,none⟩) hblk).symm.trans hu)⟩
 refine⟨d2,df,h.lt,by simpa using Nat.le_trans h.hB hg.size,?_,?_,⟨p',c',World.cell?_setCell_same' _ _ _ (by rw[d2];rfl),hO.box hF (I32.putU hst 2 _) (but_put w' go 2 _) h.lt⟩,frozen_set df,stk_put hst _ _ (fun _ h=>by cases h)⟩
 ·rw[World.cell?_setCell_other _ _ _ _ (by simp)];exact(World.cell?_of_block (a:=⟨go,0,none⟩) hblk).trans h.c0
 ·rw[World.cell?_setCell_other _ _ _ _ (by simp)];exact(World.cell?_of_block (a:=⟨go,1,none⟩) hblk).trans h.c1
def TrOk (F:Nat→FP) (n:Nat) (p q p' q' a b c d:Int) (N0:Nat) (f:Nat→Rat) (A B:Int×Int) (er:Int):Prop:=∀ vp vc W,QL F W (.slice vp n vc) n →
    Calls Tryz.prog 10 #[.agg #[.slice vp n vc,.int .i64 p,.int .i64 q,.int .i64 p',.int .i64 q'],.agg #[.int .i64 a,.int .i64 b,.int .i64 c,.int .i64 d]] W fun e w'=>(∃ pT cT,e=.returned (.tuple #[.agg #[.slice pT N0 cT,.int .i64 A.1,.int .i64 A.2,.int .i64 B.1,.int .i64 B.2],.int .i64 er])∧QL (fun j=>IsQ (f j)) w' (.slice pT N0 cT) N0∧∀ a,pT=some a→W.heap.size≤a.block)∧Below W.heap.size W w'
def trErr (n:Nat) (a b c d p q p' q':Int):Int:=if n=0∨23<n then 4 else if fitB a b c d=false then 2 else if a*d - b*c=0 then 11 else trE a b c d p q p' q'
theorem RetP.ok {w w':World} {e:Ending} {n:Nat} {f:Nat→Rat} {X Y:Int×Int} {er:Int} (h:RetP w w' e n f X Y er):
  ∃ pT cT,e=.returned (.tuple #[.agg #[.slice pT (if er=0 then n else 0) cT,.int .i64 ((if er=0 then X else(0,0)).1),.int .i64 ((if er=0 then X else(0,0)).2),.int .i64 ((if er=0 then Y else(0,0)).1),.int .i64 ((if er=0 then Y else(0,0)).2)],.int .i64 er])∧QL (fun j=>IsQ (f j)) w' (.slice pT (if er=0 then n else 0) cT) (if er=0 then n else 0)∧∀ a,pT=some a→w.heap.size≤a.block:=by
 rcases h with⟨h,he⟩ |⟨h,g,cap,he,hg,hr⟩
 ·simp only[if_neg h]
  exact⟨none,0,he,.inl ⟨rfl,_,_,rfl⟩,fun a ha=>by cases ha⟩
 ·subst h
  simp only[if_true]
  exact⟨_,cap,he,hr.ql cap,fun a ha=>by injection ha with ha;subst ha;exact hg⟩
theorem tr_ok (K:Nat) (hK1:1≤K) (hK:K≤1000000) (n:Nat) (x y:Nat→Int) (p q p' q' a b c d:Int) (hp:-9223372036854775808≤p) (hp':p≤9223372036854775807) (hq1:-9223372036854775808≤q) (hq1':q≤9223372036854775807) (hr:-9223372036854775808≤p') (hr':p'≤9223372036854775807) (hs:-9223372036854775808≤q') (hs':q'≤9223372036854775807):
  TrOk (fun j=>IsB K (x j) (y j)) n p q p' q' a b c d (if trErr n a b c d p q p' q'=0 then n else 0) (subst (fun i=>Rat.divInt (x i) (y i)) (n - 1) d (-b) (-c) a n) (if trErr n a b c d p q p' q'=0 then(appV a b c d p q).1 else(0,0)) (if trErr n a b c d p q p' q'=0 then(appV a b c d p' q').1 else(0,0)) (trErr n a b c d p q p' q'):=by
 obtain⟨er,her⟩:∃ er,trErr n a b c d p q p' q'=er:=⟨_,rfl⟩
 rw[her]
 have bad:er≠0→(∀ vp vc W,Calls Tryz.prog 10 #[.agg #[.slice vp n vc,.int .i64 p,.int .i64 q,.int .i64 p',.int .i64 q'],.agg #[.int .i64 a,.int .i64 b,.int .i64 c,.int .i64 d]] W fun e w'=>e=.returned (.tuple #[.agg #[.slice none 0 0,.int .i64 0,.int .i64 0,.int .i64 0,.int .i64 0],.int .i64 er])∧Below W.heap.size W w')→TrOk (fun j=>IsB K (x j) (y j)) n p q p' q' a b c d (if er=0 then n else 0) (subst (fun i=>Rat.divInt (x i) (y i)) (n - 1) d (-b) (-c) a n) (if er=0 then(appV a b c d p q).1 else(0,0)) (if er=0 then(appV a b c d p' q').1 else(0,0)) er:=fun h0 h1 vp vc W _=>by
  simp only[if_neg h0]
  exact(h1 vp vc W).mono fun e w' ⟨he,hb⟩=>⟨⟨none,0,he,.inl ⟨rfl,_,_,rfl⟩,fun a ha=>by cases ha⟩,hb⟩
 by_cases h1:n=0∨23<n
 ·obtain rfl:4=er:=by rw[← her,trErr,if_pos h1]
  exact bad (by decide) (fun vp vc W=>c_Translate_shape vp n vc a b c d p q p' q' W h1)
 have hn0:0<n:=by omega
 have hn23:n≤23:=by omega
 by_cases h2:fitB a b c d=false
 ·obtain rfl:2=er:=by rw[← her,trErr,if_neg h1,if_pos h2]
  exact bad (by decide) (fun vp vc W=>c_Translate_err vp n vc a b c d p q p' q' 2 W hn0 hn23 (by decide) (fun w1=>c_Apply_fit a b c d p q w1 h2))
 have h3:fitB a b c d=true:=by simpa using h2
 simp only[fitB,Bool.and_eq_true]at h3
 obtain⟨ha,hb,hc,hd⟩:=h3
 obtain⟨ha,ha'⟩:=inE_iff.1 ha
 obtain⟨hb,hb'⟩:=inE_iff.1 hb
 obtain⟨hc,hc'⟩:=inE_iff.1 hc
 obtain⟨hd,hd'⟩:=inE_iff.1 hd
 by_cases h4:a*d - b*c=0
 ·obtain rfl:11=er:=by rw[← her,trErr,if_neg h1,if_neg h2,if_pos h4]
  exact bad (by decide) (fun vp vc W=>c_Translate_err vp n vc a b c d p q p' q' 11 W hn0 hn23 (by decide) (fun w1=>c_Apply_sing a b c d p q w1 ha ha' hb hb' hc hc' hd hd' h4))
 ·obtain rfl:trE a b c d p q p' q'=er:=by rw[← her,trErr,if_neg h1,if_neg h2,if_neg h4]
  intro vp vc W hq
  exact(c_TranslateK K hK1 hK (.slice vp n vc) n x y p q p' q' a b c d W hq hn0 hn23 ha ha' hb hb' hc hc' hd hd' h4 hp hp' hq1 hq1' hr hr' hs hs').mono fun e w' ⟨hret,hb⟩=>⟨hret.ok,hb⟩
theorem IsQ.isB {K:Nat} {r:Rat} {w:World} {s:Bool} {p:Option Addr} {n c:Nat} {t:Bool} {q:Option Addr} {m d:Nat} (h:IsQ r w s p n c t q m d) (hr:hq r≤K):IsB K r.num r.den w s p n c t q m d:=
 ⟨h.1.raw,h.2.raw,by have:=Qs.sizes h;omega,by have:=Qs.sizes h;omega⟩
theorem QL.isB {K:Nat} {f:Nat→Rat} {w:World} {v:Value} {n:Nat} (h:QL (fun j=>IsQ (f j)) w v n) (hf:∀ j,j<n→hq (f j)≤K):QL (fun j=>IsB K (f j).num (f j).den) w v n:=by
 rcases h with h |⟨g,o,c,h1,h2,h3⟩
 ·exact .inl h
 ·exact .inr ⟨g,o,c,h1,h2,fun j hj=>by
   obtain⟨s,p,k,c',t,q,m,d,e0,e1,e2,e3,hx⟩:=h3 j hj
   exact⟨s,p,k,c',t,q,m,d,e0,e1,e2,e3,IsQ.isB hx (hf j hj)⟩⟩
theorem nd_abs {x:Int} {B:Nat} (h:x.natAbs≤B) (hB:B≤1073741824):nd x.natAbs≤2:=nd_le.2 (show x.natAbs<4294967296 ^ 2 by omega)
structure ModR (w:World) (M n wt:Nat) (D:Int) (F:List Nat) (C:Nat) (X:Nat→Nat→Rat):Prop where
 check:Pl.check n ((wt:Int)+2) D=0
 cnt:cntF n wt=C
 len:F.length≤72
 mod:ModAt w M w.heap.size n ((wt:Int)+2) D F C X
 size:∀ j f,j<C→f∈F→hq (X j f)≤10000
 rel:∀ f,f∈F→RelZ n wt D (fun j=>X j f)
def NewR (N k D:Int) (w:World) (e:Ending):Prop:=
 (∃ er,er≠0∧e=.returned (.tuple #[.pointer none,.int .i64 er])) ∨
 ∃ (n wt M:Nat) (F:List Nat) (C:Nat) (X:Nat→Nat→Rat),N=n∧(wt:Int)+2=k∧e=.returned (.tuple #[.pointer (some ⟨M,0,none⟩),.int .i64 0])∧ModR w M n wt D F C X
theorem new_all (N k D:Int) (w:World) (hT:Tab w):∃ lb:Bool,(∀ W,Calls Tryz.prog 14 #[.agg #[.int .i64 N,.int .i64 k,.int .i64 D]] W fun e w'=>e=.returned (.bool lb)∧Below W.heap.size W w') ∧
  (lb=false→∀ W,Below w.heap.size w W→Calls Tryz.prog 16 #[.agg #[.int .i64 N,.int .i64 k,.int .i64 D]] W fun e w'=>NewR N k D w' e∧Below W.heap.size W w'):=by
 by_cases hck:Pl.check N k D=0
 ·obtain⟨h1,h2,h3,h4,_,_⟩:=check_zero hck
  obtain⟨n,rfl⟩:∃ n:Nat,N=n:=⟨N.toNat,by omega⟩
  obtain⟨wt,rfl⟩:∃ wt:Nat,k=(wt:Int)+2:=⟨(k - 2).toNat,by omega⟩
  refine⟨_,fun W=>c_Large n wt D W hck,fun hl W hb=>?_⟩
  have hC:cntF n wt≤72:=by have h:=of_decide_eq_false hl;unfold cntF;omega
  refine(c_New n wt D W (hT.below hb) hck hC).mono ?_
  rintro e w' ⟨⟨M,rfl,_,hm⟩,hb2⟩
  exact⟨.inr ⟨n,wt,M,_,_,_,rfl,rfl,rfl,⟨hck,rfl,Nat.le_trans (frs_length _ _) hC,hm,fun j f hj hf=>Nat.le_trans (coord_size (by omega) hC hj hf) (by omega),fun f hf=>relZ_of (by omega) hf⟩⟩,hb2⟩
 ·refine⟨false,fun W=>c_Large_bad N k D W hck,fun _ W _=>(c_New_check N k D W hck).mono ?_⟩
  rintro e w' ⟨rfl,hb⟩
  exact⟨.inl ⟨_,hck,rfl⟩,hb⟩
theorem ModR.keep {w w':World} {M n wt:Nat} {D:Int} {F:List Nat} {C:Nat} {X:Nat→Nat→Rat} (h:ModR w M n wt D F C X) (hb:Below w.heap.size w w'):ModR w' M n wt D F C X:=
 ⟨h.check,h.cnt,h.len,(h.mod.keep (Nat.le_refl _) hb).up hb.size,h.size,h.rel⟩
theorem QL.sl {F:Nat→FP} {w:World} {v:Value} {n:Nat} (h:QL F w v n):∃ p c,v=.slice p n c:=by
 rcases h with⟨h,a,c,e⟩ |⟨g,o,c,e,_⟩
 ·exact⟨a,c,by rw[e,h]⟩
 ·exact⟨_,c,e⟩
theorem c_CoordQ {M n wt:Nat} {D:Int} {F:List Nat} {C:Nat} {X:Nat→Nat→Rat} {w:World} (hT:Tab w) (h:ModR w M n wt D F C X) (v:Value) (f:Nat→Rat) (p q p' q':Int) (hp:QL (fun j=>IsQ (f j)) w v (wt+1)) (hf:∀ j,j<wt+1→hq (f j)≤4000)
  (hp1:-9223372036854775808≤p) (hp2:p≤9223372036854775807) (hq1:-9223372036854775808≤q) (hq2:q≤9223372036854775807) (hr1:-9223372036854775808≤p') (hr2:p'≤9223372036854775807) (hs1:-9223372036854775808≤q') (hs2:q'≤9223372036854775807):
  Calls Tryz.prog 18 #[.pointer (some ⟨M,0,none⟩),.agg #[v,.int .i64 p,.int .i64 q,.int .i64 p',.int .i64 q']] w fun e w'=>CoRet w w' e p q p' q' n wt D F X f∧Below w.heap.size w w':=by
 have h1:=c_Coord M w.heap.size n wt D F C X v (fun j=>(f j).num) (fun j=>(f j).den) p q p' q' w hT h.check h.cnt h.len h.mod (Nat.le_refl _) h.size h.rel (hp.isB hf) hp1 hp2 hq1 hq2 hr1 hr2 hs1 hs2
 have e:(fun i=>Rat.divInt (f i).num ((f i).den:Int))=f:=funext fun i=>Rat.num_divInt_den (f i)
 rw[e]at h1
 exact h1
end Go.Proofs.YtijgdhijdfgpfaaGreatDoor
