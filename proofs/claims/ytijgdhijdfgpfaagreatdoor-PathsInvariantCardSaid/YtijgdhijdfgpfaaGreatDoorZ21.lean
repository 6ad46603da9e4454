/- Contracts of sl2 and halfplaneref18: In, Fits, Det, CheckCusp. -/
import Derived.Test.YtijgdhijdfgpfaaGreatDoorZ02
namespace Go.Proofs.YtijgdhijdfgpfaaGreatDoor
open Go.RowKit
def inE (n:Int):Bool:=decide (-1073741824≤n)&&decide (n≤1073741824)
theorem inE_true {n:Int} (h:-1073741824≤n) (h':n≤1073741824):inE n=true:=by simp[inE,h,h']
theorem inE_iff {n:Int}:inE n=true↔-1073741824≤n∧n≤1073741824:=by simp[inE]
def cuspE (p q:Int):Int:=if inE p=false∨q<0∨inE q=false then 2 else if Int.gcd p q≠1∨(q=0∧p≠1)then 3 else 0
theorem mul_b {x y:Int} (hx:-1073741824≤x) (hx':x≤1073741824) (hy:-1073741824≤y) (hy':y≤1073741824):-1152921504606846976≤x*y∧x*y≤1152921504606846976:=by
 have h1:x.natAbs≤1073741824:=by omega
 have h2:y.natAbs≤1073741824:=by omega
 have h3:=Nat.mul_le_mul h1 h2
 rw[← Int.natAbs_mul]at h3
 omega
theorem c_in (n:Int) (w:World):Calls Tryz.prog 59 #[.int .i64 n] w fun e w'=>e=.returned (.bool (inE n))∧w'=w:=by
 go_enter Tryz.func59,Tryz.ntmps59
 go_wp2
 all_goals (go_ret;exact⟨ret_b (by rw[Bool.eq_iff_iff];simp[inE];omega),rfl⟩)
theorem c_fits (a b c d:Int) (w:World) (ha:-1073741824≤a) (ha':a≤1073741824) (hb:-1073741824≤b) (hb':b≤1073741824) (hc:-1073741824≤c) (hc':c≤1073741824) (hd:-1073741824≤d) (hd':d≤1073741824):
  Calls Tryz.prog 98 #[.agg #[.int .i64 a,.int .i64 b,.int .i64 c,.int .i64 d]] w fun e w'=>e=.returned (.bool true)∧Below w.heap.size w w':=by
 have H:∀ (n:Int) (w:World),-1073741824≤n→n≤1073741824→Calls Tryz.prog 59 #[.int .i64 n] w fun e w'=>e=.returned (.bool true)∧w'=w:=by
  intro n w h1 h2
  have h:=c_in n w
  rw[inE_true h1 h2]at h
  exact h
 have HH:=Kh H
 clear H
 go_enter Tryz.func98,Tryz.ntmps98
 go_wp2_with fail
 all_goals obtain⟨w0,hw0⟩:∃ w0,w.alloc (.cells #[.int .i64 a,.int .i64 b,.int .i64 c,.int .i64 d] 28)=w0:=⟨_,rfl⟩
 rw[hw0]
 have X:=Blk.new w 28 #[.int .i64 a,.int .i64 b,.int .i64 c,.int .i64 d]
 rw[hw0]at X
 have HB:=Kh (show Below w.heap.size w w0 from hw0▸(Below.refl _ _).alloc (Nat.le_refl _) _)
 clear hw0
 have x0:=X.at_ 0 rfl
 have x1:=X.at_ 1 rfl
 have x2:=X.at_ 2 rfl
 have x3:=X.at_ 3 rfl
 clear X
 refine(HH.out a w0 (by omega) (by omega)).mono ?_
 rintro e w1 ⟨rfl,rfl⟩
 go_wp2_with fail
 refine(HH.out b w1 (by omega) (by omega)).mono ?_
 rintro e w2 ⟨rfl,rfl⟩
 go_wp2_with fail
 refine(HH.out c w2 (by omega) (by omega)).mono ?_
 rintro e w3 ⟨rfl,rfl⟩
 go_wp2_with fail
 refine(HH.out d w3 (by omega) (by omega)).mono ?_
 rintro e w4 ⟨rfl,rfl⟩
 go_wp2
 go_ret
 exact⟨rfl,HB.out⟩
theorem c_Det (a b c d:Int) (w:World) (ha:-1073741824≤a) (ha':a≤1073741824) (hb:-1073741824≤b) (hb':b≤1073741824) (hc:-1073741824≤c) (hc':c≤1073741824) (hd:-1073741824≤d) (hd':d≤1073741824):
  Calls Tryz.prog 57 #[.agg #[.int .i64 a,.int .i64 b,.int .i64 c,.int .i64 d]] w fun e w'=>e=.returned (.tuple #[.int .i64 (a*d - b*c),.int .i64 0])∧Below w.heap.size w w':=by
 have m1:=mul_b ha ha' hd hd'
 have m2:=mul_b hb hb' hc hc'
 have HF:=Kh (fun w1=>c_fits a b c d w1 ha ha' hb hb' hc hc' hd hd')
 clear ha ha' hb hb' hc hc' hd hd'
 go_enter Tryz.func57,Tryz.ntmps57
 go_wp2_with fail
 all_goals obtain⟨w0,hw0⟩:∃ w0,w.alloc (.cells #[.int .i64 a,.int .i64 b,.int .i64 c,.int .i64 d] 28)=w0:=⟨_,rfl⟩
 rw[hw0]
 have X:=Blk.new w 28 #[.int .i64 a,.int .i64 b,.int .i64 c,.int .i64 d]
 rw[hw0]at X
 have HB:=Kh (show Below w.heap.size w w0 from hw0▸(Below.refl _ _).alloc (Nat.le_refl _) _)
 clear hw0
 refine(HF.out w0).mono ?_
 rintro e w1 ⟨rfl,hb1⟩
 replace X:=X.below_ hb1 X.lt
 have HB1:=bt HB hb1
 have x0:=X.at_ 0 rfl
 have x1:=X.at_ 1 rfl
 have x2:=X.at_ 2 rfl
 have x3:=X.at_ 3 rfl
 clear X hb1 HF HB
 go_wp2
 go_ret2
 exact⟨rfl,HB1.out⟩
theorem c_CheckCusp (p q:Int) (w:World) (hp:-9223372036854775808≤p) (hp':p≤9223372036854775807) (hq:-9223372036854775808≤q) (hq':q≤9223372036854775807):
  Calls Tryz.prog 45 #[.agg #[.int .i64 p,.int .i64 q]] w fun e w'=>e=.returned (.int .i64 (cuspE p q))∧Below w.heap.size w w':=by
 have HI:=Kh c_in
 have HG:=Kh (fun w1 (h1:-1073741824≤p) (h2:p≤1073741824) (h3:-1073741824≤q) (h4:q≤1073741824)=>c_gcd p q w1 (by omega) (by omega) (by omega) (by omega))
 obtain⟨z,hz⟩:∃ z,cuspE p q=z:=⟨_,rfl⟩
 rw[hz]
 have HZ:=Kh hz
 clear hz
 go_enter Tryz.func45,Tryz.ntmps45
 go_wp2_with fail
 all_goals obtain⟨w0,hw0⟩:∃ w0,w.alloc (.cells #[.int .i64 p,.int .i64 q] 24)=w0:=⟨_,rfl⟩
 rw[hw0]
 have X:=Blk.new w 24 #[.int .i64 p,.int .i64 q]
 rw[hw0]at X
 have HB:=Kh (show Below w.heap.size w w0 from hw0▸(Below.refl _ _).alloc (Nat.le_refl _) _)
 clear hw0
 have x0:=X.at_ 0 rfl
 have x1:=X.at_ 1 rfl
 clear X
 refine(HI.out p w0).mono ?_
 rintro e w1 ⟨rfl,rfl⟩
 cases hip:inE p with
 | false=>
  obtain rfl:z=2:=by rw[← HZ.out,cuspE,if_pos (.inl hip)]
  clear HZ HG HI
  go_wp2
  go_ret
  exact⟨rfl,HB.out⟩
 | true=>
  by_cases hq0:q<0
  ·obtain rfl:z=2:=by rw[← HZ.out,cuspE,if_pos (.inr (.inl hq0))]
   clear HZ HG HI
   go_wp2
   go_ret
   exact⟨rfl,HB.out⟩
  ·go_wp2_with fail
   refine(HI.out q w1).mono ?_
   rintro e w2 ⟨rfl,rfl⟩
   cases hiq:inE q with
   | false=>
    obtain rfl:z=2:=by rw[← HZ.out,cuspE,if_pos (.inr (.inr hiq))]
    clear HZ HG HI
    go_wp2
    go_ret
    exact⟨rfl,HB.out⟩
   | true=>
    go_wp2_with fail
    obtain⟨i1,i2⟩:=inE_iff.1 hip
    obtain⟨i3,i4⟩:=inE_iff.1 hiq
    have hz:z=if Int.gcd p q≠1∨(q=0∧p≠1)then 3 else 0:=by rw[← HZ.out,cuspE,if_neg (by rw[hip,hiq];simp;omega)]
    clear HZ HI
    refine(HG.out w2 i1 i2 i3 i4).mono ?_
    rintro e w3 ⟨rfl,k,rfl⟩
    have HB3:=Kh (below_drewN' HB.out k)
    obtain⟨y0,y1⟩:(w2.drewN k).cell? _=_∧(w2.drewN k).cell? _=_:=And.intro x0 x1
    clear HG hip hiq
    by_cases hg:Int.gcd p q=1
    ·rw[hg]
     by_cases hq1:q=0
     ·subst hq1
      by_cases hp1:p=1
      ·subst hp1
       obtain rfl:z=0:=by rw[hz,if_neg (by simp[hg])]
       clear hz
       go_wp2
       go_ret
       exact⟨rfl,HB3.out⟩
      ·obtain rfl:z=3:=by rw[hz,if_pos (.inr ⟨rfl,hp1⟩)]
       clear hz hg
       go_wp2
       go_ret
       exact⟨rfl,HB3.out⟩
     ·obtain rfl:z=0:=by rw[hz,if_neg (by simp[hg,hq1])]
      clear hz hg
      go_wp2
      go_ret
      exact⟨rfl,HB3.out⟩
    ·obtain rfl:z=3:=by rw[hz,if_pos (.inl hg)]
     have hgi:((Int.gcd p q:Nat):Int)≠1:=by omega
     generalize ((Int.gcd p q:Nat):Int)=gg at *
     clear hz hg
     go_wp2
     go_ret
     exact⟨rfl,HB3.out⟩
end Go.Proofs.YtijgdhijdfgpfaaGreatDoor
